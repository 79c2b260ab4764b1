/-
  texts.Do, a command at a time (printed by gen_do.py).
  The words of a call lie in a new block.
  What the laid variables give: ErrSyntax, ErrRange, the table of powers.
-/
import Derived.Test.YthfngplckbggpaaGreatDoorP31
import Derived.Test.YthfngplckbggpaaGreatDoorRows
import Derived.Stop.LaidErr
import Derived.Lib.LaidTab
import Derived.WalkKit
import Derived.ProofKit
set_option linter.unusedVariables false
set_option linter.unusedSimpArgs false
namespace Go.Proofs.YthfngplckbggpaaGreatDoor
open Go Go.RowKit

set_option maxRecDepth 100000 in
set_option maxHeartbeats 2000000 in
theorem do_INCR {w0 w : World} {l r : Hp} {sb : Nat} {S : St} {g off : Nat} {c : ByteArray} {k : ByteArray} {ws : List ByteArray} (h : Ctx w0 w l r sb S g off (c :: k :: ws)) (hc : wcheck (c :: k :: ws) = (spINCR, ByteArray.empty)) (now : Int) (cap : Nat) (hcap : (c :: k :: ws).length ≤ cap) (hcap2 : cap ≤ 1099511627776)  :
    Calls Tryz.prog 28 #[ptr sb, .int .i64 now, .slice (some ⟨g, off, none⟩) (c :: k :: ws).length cap] w (DoPost w0 r sb (tAdd S now k 1).1 (tAdd S now k 1).2) := by
  have H := h.alloc ZeroVal
  have hchk := check_some H.st (H.args.more (x := l)) cap
  rw [hc] at hchk
  clear hc
  unfold CheckPost Sp.val specVal spINCR at hchk
  simp only at hchk
  generalize hT : tAdd S now k 1 = T
  replace hT := hid hT
  have hx : ∀ (w' : World) (x : Hp), Step w0 [] w' (l ++ (x ++ r)) → Ctx w0 w' l (x ++ r) sb S g (off + 1) (k :: ws) := fun w' x hS => (h.at (x := x) rfl hS).tail
  have hn : 1 < (c :: k :: ws).length := by simp only [List.length_cons]; omega
  obtain ⟨n, hlen⟩ : ∃ n, (c :: k :: ws).length = n := ⟨_, rfl⟩
  have hlen1 : (k :: ws).length = n - 1 := by rw [← hlen]; simp only [List.length_cons]; omega
  have hcap' : n ≤ cap := by rw [← hlen]; exact hcap
  rw [hlen] at hchk hn ⊢
  have hc1 : ¬ cap - 1 = 0 := by omega
  have hn3 : (1 : Int) < (n : Int) := by omega
  have hn4 : 0 < n := by omega
  replace hlen := hid hlen
  replace hlen1 := hid hlen1
  replace hchk := hid hchk
  replace hx := hid hx
  replace hcap := hid hcap
  clear h H
  go_enter Tryz.func28, Tryz.ntmps28
  go_wp2_with fail
  refine hchk.out.mono ?_
  rintro e w2 ⟨rfl, S2⟩
  clear hchk
  go_upto_region 2 with fail
  have S3 := S2.alloc (.cells #[.string ⟨#[73, 78, 67, 82]⟩, .int .i64 2, .int .i64 2, .int .i64 2, .int .i64 1, .int .i64 1, .int .i64 1] 48)
  generalize hw3 : w2.alloc _ = w3
  replace S3 : Step w0 [] w3 _ := hw3 ▸ S3
  clear hw3 S2
  generalize w2.heap.size = b1 at S3 ⊢
  generalize w.heap.size = b at S3 ⊢
  have nm := cells_get S3.own.head 0
  simp only [List.getElem?_toArray, List.getElem?_cons_zero] at nm
  go_upto_region 5 with fail
  have S4 := S3.alloc (JobObj sb now g (off + 1) (n - 1) (cap - 1))
  generalize hw4 : w3.alloc _ = w4
  replace S4 : Step w0 [] w4 _ := hw4 ▸ S4
  clear hw4 S3 nm
  generalize w3.heap.size = b2 at S4 ⊢
  have nm := cells_get S4.own.tail.head 0
  simp only [List.getElem?_toArray, List.getElem?_cons_zero] at nm
  obtain ⟨j0, j1, j2⟩ := jobAt S4.own.head
  obtain ⟨X, hX⟩ : ∃ X : Hp, X = [(b2, JobObj sb now g (off + 1) (n - 1) (cap - 1)), (b1, .cells #[.string ⟨#[73, 78, 67, 82]⟩, .int .i64 2, .int .i64 2, .int .i64 2, .int .i64 1, .int .i64 1, .int .i64 1] 48 (0, 0)), (b, ZeroVal)] := ⟨_, rfl⟩
  have S5 : Step w0 [] w4 (l ++ (X ++ r)) := S4.permR (perm_by fun f => by
    rw [hX]; simp only [List.map_append, List.sum_append, List.map_cons, List.sum_cons, List.map_nil, List.sum_nil]; omega)
  have hend : Hid (∀ (w' : World) (l3 : Hp), Step w0 [] w' (l3 ++ (X ++ r)) → Step w0 [] w' ((b, ZeroVal) :: (l3 ++ r ++ [(b2, JobObj sb now g (off + 1) (n - 1) (cap - 1)), (b1, .cells #[.string ⟨#[73, 78, 67, 82]⟩, .int .i64 2, .int .i64 2, .int .i64 2, .int .i64 1, .int .i64 1, .int .i64 1] 48 (0, 0))]))) := hid fun w' l3 h => h.permR (perm_by fun f => by
    rw [hX]; simp only [List.map_append, List.sum_append, List.map_cons, List.sum_cons, List.map_nil, List.sum_nil]; omega)
  clear S4
  replace hX := hid hX
  have hj := add_job (hx.out w4 X S5) now (cap - 1) 1 (by omega)
  rw [hlen1.out, hT.out] at hj
  unfold jobVal lfVal ansVal at hj
  replace hj := hid hj
  clear S5 hx hT
  go_wp2_with fail
  refine hj.out.mono ?_
  rintro e w5 ⟨rfl, l5, hX5, S6⟩
  have S7 := hend.out w5 l5 S6
  obtain ⟨⟨c0, hc0⟩, ⟨c1, hc1⟩, ⟨c2, hc2⟩, ⟨c3, hc3⟩, ⟨c4, hc4⟩, ⟨c5, hc5⟩, fz, hlt⟩ := cells6' S7.own.head
  have S9 := hid ((S7.setLf T.2).less (List.sublist_append_left _ _))
  clear hj S6 S7 hend
  go_wp2_with fail
  refine bodyPost_ret (v := .tuple #[lfVal T.2, .bool true]) (by simp [results, Tryz.results28, go_sem, lfVal, ansVal, *] <;> rfl) rfl ?_
  exact ⟨rfl, l5, hX5, S9.out⟩

set_option maxRecDepth 100000 in
set_option maxHeartbeats 2000000 in
theorem do_APPEND {w0 w : World} {l r : Hp} {sb : Nat} {S : St} {g off : Nat} {c : ByteArray} {k m : ByteArray} {ws : List ByteArray} (h : Ctx w0 w l r sb S g off (c :: k :: m :: ws)) (hc : wcheck (c :: k :: m :: ws) = (spAPPEND, ByteArray.empty)) (now : Int) (cap : Nat) (hcap : (c :: k :: m :: ws).length ≤ cap) (hcap2 : cap ≤ 1099511627776)  :
    Calls Tryz.prog 28 #[ptr sb, .int .i64 now, .slice (some ⟨g, off, none⟩) (c :: k :: m :: ws).length cap] w (DoPost w0 r sb (tJoin S now k m).1 (tJoin S now k m).2) := by
  have H := h.alloc ZeroVal
  have hchk := check_some H.st (H.args.more (x := l)) cap
  rw [hc] at hchk
  clear hc
  unfold CheckPost Sp.val specVal spAPPEND at hchk
  simp only at hchk
  generalize hT : tJoin S now k m = T
  replace hT := hid hT
  have hx : ∀ (w' : World) (x : Hp), Step w0 [] w' (l ++ (x ++ r)) → Ctx w0 w' l (x ++ r) sb S g (off + 1) (k :: m :: ws) := fun w' x hS => (h.at (x := x) rfl hS).tail
  have hn : 1 < (c :: k :: m :: ws).length := by simp only [List.length_cons]; omega
  obtain ⟨n, hlen⟩ : ∃ n, (c :: k :: m :: ws).length = n := ⟨_, rfl⟩
  have hlen1 : (k :: m :: ws).length = n - 1 := by rw [← hlen]; simp only [List.length_cons]; omega
  have hcap' : n ≤ cap := by rw [← hlen]; exact hcap
  rw [hlen] at hchk hn ⊢
  have hc1 : ¬ cap - 1 = 0 := by omega
  have hn3 : (1 : Int) < (n : Int) := by omega
  have hn4 : 0 < n := by omega
  replace hlen := hid hlen
  replace hlen1 := hid hlen1
  replace hchk := hid hchk
  replace hx := hid hx
  replace hcap := hid hcap
  clear h H
  go_enter Tryz.func28, Tryz.ntmps28
  go_wp2_with fail
  refine hchk.out.mono ?_
  rintro e w2 ⟨rfl, S2⟩
  clear hchk
  go_upto_region 2 with fail
  have S3 := S2.alloc (.cells #[.string ⟨#[65, 80, 80, 69, 78, 68]⟩, .int .i64 2, .int .i64 3, .int .i64 3, .int .i64 1, .int .i64 1, .int .i64 1] 48)
  generalize hw3 : w2.alloc _ = w3
  replace S3 : Step w0 [] w3 _ := hw3 ▸ S3
  clear hw3 S2
  generalize w2.heap.size = b1 at S3 ⊢
  generalize w.heap.size = b at S3 ⊢
  have nm := cells_get S3.own.head 0
  simp only [List.getElem?_toArray, List.getElem?_cons_zero] at nm
  go_upto_region 5 with fail
  have S4 := S3.alloc (JobObj sb now g (off + 1) (n - 1) (cap - 1))
  generalize hw4 : w3.alloc _ = w4
  replace S4 : Step w0 [] w4 _ := hw4 ▸ S4
  clear hw4 S3 nm
  generalize w3.heap.size = b2 at S4 ⊢
  have nm := cells_get S4.own.tail.head 0
  simp only [List.getElem?_toArray, List.getElem?_cons_zero] at nm
  obtain ⟨j0, j1, j2⟩ := jobAt S4.own.head
  obtain ⟨X, hX⟩ : ∃ X : Hp, X = [(b2, JobObj sb now g (off + 1) (n - 1) (cap - 1)), (b1, .cells #[.string ⟨#[65, 80, 80, 69, 78, 68]⟩, .int .i64 2, .int .i64 3, .int .i64 3, .int .i64 1, .int .i64 1, .int .i64 1] 48 (0, 0)), (b, ZeroVal)] := ⟨_, rfl⟩
  have S5 : Step w0 [] w4 (l ++ (X ++ r)) := S4.permR (perm_by fun f => by
    rw [hX]; simp only [List.map_append, List.sum_append, List.map_cons, List.sum_cons, List.map_nil, List.sum_nil]; omega)
  have hend : Hid (∀ (w' : World) (l3 : Hp), Step w0 [] w' (l3 ++ (X ++ r)) → Step w0 [] w' ((b, ZeroVal) :: (l3 ++ r ++ [(b2, JobObj sb now g (off + 1) (n - 1) (cap - 1)), (b1, .cells #[.string ⟨#[65, 80, 80, 69, 78, 68]⟩, .int .i64 2, .int .i64 3, .int .i64 3, .int .i64 1, .int .i64 1, .int .i64 1] 48 (0, 0))]))) := hid fun w' l3 h => h.permR (perm_by fun f => by
    rw [hX]; simp only [List.map_append, List.sum_append, List.map_cons, List.sum_cons, List.map_nil, List.sum_nil]; omega)
  clear S4
  replace hX := hid hX
  have hj := join_job (hx.out w4 X S5) now (cap - 1)
  rw [hlen1.out, hT.out] at hj
  unfold jobVal lfVal ansVal at hj
  replace hj := hid hj
  clear S5 hx hT
  go_wp2_with fail
  refine hj.out.mono ?_
  rintro e w5 ⟨rfl, l5, hX5, S6⟩
  have S7 := hend.out w5 l5 S6
  obtain ⟨⟨c0, hc0⟩, ⟨c1, hc1⟩, ⟨c2, hc2⟩, ⟨c3, hc3⟩, ⟨c4, hc4⟩, ⟨c5, hc5⟩, fz, hlt⟩ := cells6' S7.own.head
  have S9 := hid ((S7.setLf T.2).less (List.sublist_append_left _ _))
  clear hj S6 S7 hend
  go_wp2_with fail
  refine bodyPost_ret (v := .tuple #[lfVal T.2, .bool true]) (by simp [results, Tryz.results28, go_sem, lfVal, ansVal, *] <;> rfl) rfl ?_
  exact ⟨rfl, l5, hX5, S9.out⟩

end Go.Proofs.YthfngplckbggpaaGreatDoor

namespace Go.Proofs.YthfngplckbggpaaGreatDoor
open Go Go.RowKit

abbrev WsObj (ws : List ByteArray) : Obj := .cells (ws.map Value.string).toArray 9 (0, 0)

/-- The words of a call lie in a new block. -/
theorem Ctx.call {w0 w : World} {l r : Hp} {sb : Nat} {S : St} (hS : Step w0 [] w (l ++ r)) (hG : Glob w0) (hX : IsStore l sb S) (hT : Tight S) (hl : S.load ≤ 1000000000000) (ws : List ByteArray) (hs : ∀ s ∈ ws, s.size ≤ 1099511627776) (hf : ws.length ≤ 1099511627776) :
    Ctx w0 (w.alloc (WsObj ws)) l ((w.heap.size, WsObj ws) :: r) sb S w.heap.size 0 ws where
  st := (hS.alloc _).permR (perm_by fun f => by simp only [List.map_append, List.sum_append, List.map_cons, List.sum_cons]; omega)
  gl := hG
  is := hX
  tight := hT
  load := hl
  args := .own (t := 9) (by simp) hs hf

theorem Step.letGo {w0 w : World} {l r : Hp} {p : Nat × Obj} (h : Step w0 [] w (l ++ (p :: r))) : Step w0 [] w (l ++ r) :=
  h.pick (l2 := l ++ r) (m := [p]) (perm_by fun f => by simp only [List.map_append, List.sum_append, List.map_cons, List.sum_cons, List.map_nil, List.sum_nil]; omega)
theorem Step.keepLf {w0 w : World} {l r : Hp} (h : Step w0 [] w (l ++ r)) (o : Obj) : Step w0 [] (w.alloc o) (l ++ ((w.heap.size, o) :: r)) :=
  (h.alloc o).permR (perm_by fun f => by simp only [List.map_append, List.sum_append, List.map_cons, List.sum_cons]; omega)

end Go.Proofs.YthfngplckbggpaaGreatDoor

namespace Go.Proofs.YthfngplckbggpaaGreatDoor
open Go Go.RowKit

theorem errStar : "*" ++ "errors.errorString" = "*errors.errorString" := by decide
theorem rowErr (u : TypeId) (h : Tryz.prog.typeName? 3 u = some "*errors.errorString") : u = 327 :=
  typeName_ptr_named (nm := "errors.errorString") (by rw [errStar]; kernel_rfl) (by kernel_rfl) (by decide) u (by rw [errStar]; exact h)

/-- The sentinels and the table, each off its own place in the list. -/
theorem glob_of {W : World} {r1 r2 r3 : List (String × DataW Unit)} (h1 : laidMet Tryz.prog (("internal/strconv.uint64pow10", Rows.laid_internal_strconv_uint64pow10) :: r1) W)
    (h2 : laidMet Tryz.prog (("strconv.ErrRange", Rows.laid_strconv_ErrRange) :: r2) W) (h3 : laidMet Tryz.prog (("strconv.ErrSyntax", Rows.laid_strconv_ErrSyntax) :: r3) W) : Glob W := by
  obtain ⟨a1, s1, hv1, _⟩ := laid_sentinel (g := 5) (ti := 147) (tp := 327) (te := 329) (ts := 9) h3 (by kernel_rfl) (by kernel_rfl) Tryz.underlying147 rowErr Tryz.underlying327 Tryz.underlying329 rfl rfl Tryz.underlying9 (by kernel_rfl) (by kernel_rfl)
  obtain ⟨a2, s2, hv2, _⟩ := laid_sentinel (g := 6) (ti := 147) (tp := 327) (te := 329) (ts := 9) h2 (by kernel_rfl) (by kernel_rfl) Tryz.underlying147 rowErr Tryz.underlying327 Tryz.underlying329 rfl rfl Tryz.underlying9 (by kernel_rfl) (by kernel_rfl)
  exact ⟨⟨_, _, hv1⟩, ⟨_, _, hv2⟩, Lib.tabIs_of_head (g := 7) (t := 324) (by kernel_rfl) (by kernel_rfl) Tryz.underlying324 Tryz.underlying93 (by kernel_rfl) (by kernel_rfl) h1⟩

theorem ownNone : ownKnob Tryz.prog.godebug = none := by kernel_rfl

theorem Step.start (W : World) : Step W [] W [] := ⟨rfl, rfl, Nat.le_refl _, ⟨fun p hp => by simp at hp, by simp [keys]⟩, fun _ _ _ => rfl, fun b hb => .inl hb⟩
theorem Step.kept {W W' : World} (h : Step W [] W' []) (may : MemPlace → Prop) : W.keptBut W' may := by
  refine ⟨h.os, h.output, fun i hi => ?_⟩
  rw [h.same i hi (by simp [keys])]
  split <;> simp_all

end Go.Proofs.YthfngplckbggpaaGreatDoor
