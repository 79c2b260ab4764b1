/-
  exec.Run, whichever layer does the command (printed by gen_run.py; for a seat of exec).
  A call of exec.Run: its words lie in a new block, which is let go (printed by gen_ecall.py; for a seat of exec).
  nearhandlaw20: execAlive (printed by gen_law20.py).
-/
import Derived.Test.YthfngplckbggpaaGreatDoorPEClear
import Derived.Deep.RegionHeld3
import Derived.Test.YthfngplckbggpaaGreatDoorP32
set_option linter.unusedVariables false
set_option linter.unusedSimpArgs false
namespace Go.Proofs.YthfngplckbggpaaGreatDoor
open Go Go.RowKit

abbrev ValObj (kd : Int) (tx : ByteArray) (nn : Int) (lv : Value) : Obj := .cells #[.int .i64 kd, .string tx, .int .i64 nn, .float .f64 0, .bool false, lv] 28 (0, 0)

/-- What a command answers, what happened, and what the Store is then. -/
def RunEnd (w0 : World) (r : Hp) (sb : Nat) (S : St) (kd : Int) (tx : ByteArray) (nn : Int) (xs : List Lf) (e : Ending) (w' : World) : Prop :=
  ∃ a c ev xl el l', e = .returned (.tuple #[ansVal kd tx nn (.slice a xs.length c), ev]) ∧ IsLfs (.slice a xs.length c) xs xl ∧ SliceHp 2 33 ev S.ev.length (evCells S.ev) el ∧ IsStore l' sb { S with ev := [] } ∧ Step w0 [] w' (l' ++ (xl ++ (el ++ r)))

theorem Step.setVal {w0 w : World} {l r : Hp} {b : Nat} {o0 o1 o2 o3 o4 o5 : Value} {t : TypeId} (h : Step w0 l w ((b, .cells #[o0, o1, o2, o3, o4, o5] t (0, 0)) :: r)) (kd : Int) (tx : ByteArray) (nn : Int) (lv : Value) :
    Step w0 l ((((((w.setCell ⟨b, 0, none⟩ (.int .i64 kd)).setCell ⟨b, 1, none⟩ (.string tx)).setCell ⟨b, 2, none⟩ (.int .i64 nn)).setCell ⟨b, 3, none⟩ (.float .f64 0)).setCell ⟨b, 4, none⟩ (.bool false)).setCell ⟨b, 5, none⟩ lv) ((b, .cells #[.int .i64 kd, .string tx, .int .i64 nn, .float .f64 0, .bool false, lv] t (0, 0)) :: r) := by
  have k := (((((h.set 0 (.int .i64 kd)).set 1 (.string tx)).set 2 (.int .i64 nn)).set 3 (.float .f64 0)).set 4 (.bool false)).set 5 lv
  rw [set6] at k
  exact k

set_option maxRecDepth 100000 in
set_option maxHeartbeats 4000000 in
theorem run_wrong {w0 w : World} {l r : Hp} {sb : Nat} {S : St} {g off : Nat} {c : ByteArray} {ws : List ByteArray} (h : Ctx w0 w l r sb S g off (c :: ws)) (sp : Sp) {wrong : ByteArray} (hc : wcheck (c :: ws) = (sp, wrong)) (hw : ¬ wrong = ByteArray.empty) (now : Int) (cap : Nat) :
    Calls Tryz.prog 10 #[ptr sb, .int .i64 now, .slice (some ⟨g, off, none⟩) (c :: ws).length cap] w (RunEnd w0 r sb S 2 wrong 0 []) := by
  have H := h.alloc ZeroVal
  have hchk := check_some H.st (H.args.more (x := l)) cap
  have hX := h.is
  rw [hc] at hchk
  unfold CheckPost Sp.val specVal at hchk
  simp only at hchk
  have hw1 : ¬ wrong.toList = [] := fun h => hw (bytes_nil.1 h)
  have hw2 : wrong.toList.isEmpty = false := by simpa using hw1
  clear hc hw
  generalize (c :: ws).length = n at hchk ⊢
  replace hchk := hid hchk
  clear h H
  go_enter Tryz.func10, Tryz.ntmps10
  go_wp2_with fail
  refine hchk.out.mono ?_
  rintro e w2 ⟨rfl, S2⟩
  clear hchk
  generalize w.heap.size = b at S2 ⊢
  go_upto_region 2 with fail
  have S3 := S2.alloc (.cells #[.string sp.name, .int .i64 sp.kind, .int .i64 sp.least, .int .i64 sp.most, .int .i64 sp.first, .int .i64 sp.last, .int .i64 sp.step] 48)
  generalize hw3 : w2.alloc _ = w3
  replace S3 : Step w0 [] w3 ((w2.heap.size, SpObj sp) :: _) := hw3 ▸ S3
  clear hw3 S2
  generalize w2.heap.size = b1 at S3 ⊢
  have S4 := S3
  clear S3
  generalize w3 = w4 at S4 ⊢
  have hf := hid (vfail_any S4 wrong)
  have hL : ∀ w', Step w0 [] w' ((b1, SpObj sp) :: (l ++ (b, ZeroVal) :: r)) → Step w0 [] w' (l ++ ((b, ZeroVal) :: (b1, SpObj sp) :: r)) := fun w' h => h.permR (perm_by fun f => by simp only [List.map_append, List.sum_append, List.map_cons, List.sum_cons, List.map_nil, List.sum_nil]; omega)
  replace hL := hid hL
  clear S4
  go_wp2_with fail
  refine hf.out.mono ?_
  rintro e w5 ⟨rfl, S5⟩
  have hev := hid (events_any (hL.out w5 S5) hX)
  clear hf S5 hX hL
  unfold ansVal
  go_wp2_with fail
  refine hev.out.mono ?_
  rintro e w6 ⟨ev, vl, l3, rfl, hsv, hX3, S6⟩
  replace S6 : Step w0 [] w6 ((b, ZeroVal) :: (l3 ++ (vl ++ ((b1, SpObj sp) :: r)))) := S6.permR (perm_by fun f => by simp only [List.map_append, List.sum_append, List.map_cons, List.sum_cons, List.map_nil, List.sum_nil]; omega)
  obtain ⟨⟨c0, hc0⟩, ⟨c1, hc1⟩, ⟨c2, hc2⟩, ⟨c3, hc3⟩, ⟨c4, hc4⟩, ⟨c5, hc5⟩, fz, hlt⟩ := cells6' S6.own.head
  have S7 : Step w0 [] _ ((b, ValObj 2 wrong 0 (.slice none 0 0)) :: _) := S6.setVal 2 wrong 0 (.slice none 0 0)
  have S9 := hid (S7.pick (l2 := l3 ++ (vl ++ r)) (m := [(b, ValObj 2 wrong 0 (.slice none 0 0)), (b1, SpObj sp)]) (perm_by fun f => by simp only [List.map_append, List.sum_append, List.map_cons, List.sum_cons, List.map_nil, List.sum_nil]; omega))
  replace hsv := hid hsv
  replace hX3 := hid hX3
  clear hev S6 S7
  go_wp2_with fail
  refine bodyPost_ret (v := .tuple #[ansVal 2 wrong 0 (.slice none 0 0), ev]) (by simp [results, Tryz.results10, go_sem, ansVal, *] <;> rfl) rfl ?_
  exact ⟨none, 0, ev, [], vl, l3, rfl, .nil, hsv.out, hX3.out, S9.out⟩

set_option maxRecDepth 100000 in
set_option maxHeartbeats 4000000 in
theorem run_other {w0 w : World} {l r : Hp} {sb : Nat} {S : St} {g off : Nat} {c : ByteArray} {ws : List ByteArray} (h : Ctx w0 w l r sb S g off (c :: ws)) (sp : Sp) (hc : wcheck (c :: ws) = (sp, ByteArray.empty)) (hk : isKeys (sp, ByteArray.empty) = false) (now : Int) (cap : Nat) :
    Calls Tryz.prog 10 #[ptr sb, .int .i64 now, .slice (some ⟨g, off, none⟩) (c :: ws).length cap] w (RunEnd w0 r sb S 2 ⟨#[69, 82, 82, 32, 117, 110, 107, 110, 111, 119, 110, 32, 99, 111, 109, 109, 97, 110, 100]⟩ 0 []) := by
  have H := h.alloc ZeroVal
  have hchk := check_some H.st (H.args.more (x := l)) cap
  have hX := h.is
  rw [hc] at hchk
  unfold CheckPost Sp.val specVal at hchk
  simp only at hchk
  have his : ∀ (w' : World) (L : Hp), Hid (Step w0 [] w' (L ++ r)) → Hid (Calls _ _ _ w' _) := fun w' L hS => hid (is_some hS.out (h.args.more (x := L)) cap)
  rw [hc, hk] at his
  clear hc hk
  generalize (c :: ws).length = n at hchk his ⊢
  replace hchk := hid hchk
  clear h H
  go_enter Tryz.func10, Tryz.ntmps10
  go_wp2_with fail
  refine hchk.out.mono ?_
  rintro e w2 ⟨rfl, S2⟩
  clear hchk
  generalize w.heap.size = b at S2 ⊢
  go_upto_region 2 with fail
  have S3 := S2.alloc (.cells #[.string sp.name, .int .i64 sp.kind, .int .i64 sp.least, .int .i64 sp.most, .int .i64 sp.first, .int .i64 sp.last, .int .i64 sp.step] 48)
  generalize hw3 : w2.alloc _ = w3
  replace S3 : Step w0 [] w3 ((w2.heap.size, SpObj sp) :: _) := hw3 ▸ S3
  clear hw3 S2
  generalize w2.heap.size = b1 at S3 ⊢
  have hi := his w3 ([(b1, SpObj sp), (b, ZeroVal)] ++ l) (hid (S3.permR (perm_by fun f => by simp only [List.map_append, List.sum_append, List.map_cons, List.sum_cons, List.map_nil, List.sum_nil]; omega)))
  clear his
  replace S3 := hid S3
  go_wp2_with fail
  refine hi.out.mono ?_
  rintro e w4 ⟨rfl, S4⟩
  clear hi S3
  have hf := hid (vfail_any S4 ⟨#[69, 82, 82, 32, 117, 110, 107, 110, 111, 119, 110, 32, 99, 111, 109, 109, 97, 110, 100]⟩)
  have hL : ∀ w', Step w0 [] w' ([(b1, SpObj sp), (b, ZeroVal)] ++ l ++ r) → Step w0 [] w' (l ++ ((b, ZeroVal) :: (b1, SpObj sp) :: r)) := fun w' h => h.permR (perm_by fun f => by simp only [List.map_append, List.sum_append, List.map_cons, List.sum_cons, List.map_nil, List.sum_nil]; omega)
  replace hL := hid hL
  clear S4
  go_wp2_with fail
  refine hf.out.mono ?_
  rintro e w5 ⟨rfl, S5⟩
  have hev := hid (events_any (hL.out w5 S5) hX)
  clear hf S5 hX hL
  unfold ansVal
  go_wp2_with fail
  refine hev.out.mono ?_
  rintro e w6 ⟨ev, vl, l3, rfl, hsv, hX3, S6⟩
  replace S6 : Step w0 [] w6 ((b, ZeroVal) :: (l3 ++ (vl ++ ((b1, SpObj sp) :: r)))) := S6.permR (perm_by fun f => by simp only [List.map_append, List.sum_append, List.map_cons, List.sum_cons, List.map_nil, List.sum_nil]; omega)
  obtain ⟨⟨c0, hc0⟩, ⟨c1, hc1⟩, ⟨c2, hc2⟩, ⟨c3, hc3⟩, ⟨c4, hc4⟩, ⟨c5, hc5⟩, fz, hlt⟩ := cells6' S6.own.head
  have S7 : Step w0 [] _ ((b, ValObj 2 ⟨#[69, 82, 82, 32, 117, 110, 107, 110, 111, 119, 110, 32, 99, 111, 109, 109, 97, 110, 100]⟩ 0 (.slice none 0 0)) :: _) := S6.setVal 2 ⟨#[69, 82, 82, 32, 117, 110, 107, 110, 111, 119, 110, 32, 99, 111, 109, 109, 97, 110, 100]⟩ 0 (.slice none 0 0)
  have S9 := hid (S7.pick (l2 := l3 ++ (vl ++ r)) (m := [(b, ValObj 2 ⟨#[69, 82, 82, 32, 117, 110, 107, 110, 111, 119, 110, 32, 99, 111, 109, 109, 97, 110, 100]⟩ 0 (.slice none 0 0)), (b1, SpObj sp)]) (perm_by fun f => by simp only [List.map_append, List.sum_append, List.map_cons, List.sum_cons, List.map_nil, List.sum_nil]; omega))
  replace hsv := hid hsv
  replace hX3 := hid hX3
  clear hev S6 S7
  go_wp2_with fail
  refine bodyPost_ret (v := .tuple #[ansVal 2 ⟨#[69, 82, 82, 32, 117, 110, 107, 110, 111, 119, 110, 32, 99, 111, 109, 109, 97, 110, 100]⟩ 0 (.slice none 0 0), ev]) (by simp [results, Tryz.results10, go_sem, ansVal, *] <;> rfl) rfl ?_
  exact ⟨none, 0, ev, [], vl, l3, rfl, .nil, hsv.out, hX3.out, S9.out⟩

set_option maxRecDepth 100000 in
set_option maxHeartbeats 4000000 in
theorem run_text {w0 w : World} {l r : Hp} {sb : Nat} {S S' : St} {g off : Nat} {c : ByteArray} {ws : List ByteArray} {kd nn : Int} {tx : ByteArray} {xs : List Lf} (h : Ctx w0 w l r sb S g off (c :: ws)) (sp : Sp) (hc : wcheck (c :: ws) = (sp, ByteArray.empty)) (hk : isKeys (sp, ByteArray.empty) = true) (now : Int) (cap : Nat)
    (htx : ∀ (w' : World) (x : Hp), Step w0 [] w' (l ++ (x ++ r)) → Calls Tryz.prog 28 #[ptr sb, .int .i64 now, .slice (some ⟨g, off, none⟩) (c :: ws).length cap] w' (FDoEnd w0 (x ++ r) sb S' kd tx nn xs)) :
    Calls Tryz.prog 10 #[ptr sb, .int .i64 now, .slice (some ⟨g, off, none⟩) (c :: ws).length cap] w (RunEnd w0 r sb S' kd tx nn xs) := by
  have H := h.alloc ZeroVal
  have hchk := check_some H.st (H.args.more (x := l)) cap
  have hargs := hid (h.args)
  have hX := hid h.is
  rw [hc] at hchk
  unfold CheckPost Sp.val specVal at hchk
  simp only at hchk
  have his : ∀ (w' : World) (L : Hp), Hid (Step w0 [] w' (L ++ r)) → Hid (Calls _ _ _ w' _) := fun w' L hS => hid (is_some hS.out (h.args.more (x := L)) cap)
  rw [hc, hk] at his
  clear hc hk
  obtain ⟨n, hlen⟩ : ∃ n, (c :: ws).length = n := ⟨_, rfl⟩
  rw [hlen] at hchk his htx ⊢
  replace hlen := hid hlen
  replace hchk := hid hchk
  replace htx := hid htx
  clear h H
  go_enter Tryz.func10, Tryz.ntmps10
  go_wp2_with fail
  refine hchk.out.mono ?_
  rintro e w2 ⟨rfl, S2⟩
  clear hchk
  generalize w.heap.size = b at S2 ⊢
  go_upto_region 2 with fail
  have S3 := S2.alloc (.cells #[.string sp.name, .int .i64 sp.kind, .int .i64 sp.least, .int .i64 sp.most, .int .i64 sp.first, .int .i64 sp.last, .int .i64 sp.step] 48)
  generalize hw3 : w2.alloc _ = w3
  replace S3 : Step w0 [] w3 ((w2.heap.size, SpObj sp) :: _) := hw3 ▸ S3
  clear hw3 S2
  generalize w2.heap.size = b1 at S3 ⊢
  have hi := his w3 ([(b1, SpObj sp), (b, ZeroVal)] ++ l) (hid (S3.permR (perm_by fun f => by simp only [List.map_append, List.sum_append, List.map_cons, List.sum_cons, List.map_nil, List.sum_nil]; omega)))
  clear his
  replace S3 := hid S3
  go_wp2_with fail
  refine hi.out.mono ?_
  rintro e w4 ⟨rfl, S4⟩
  clear hi S3
  replace S4 : Step w0 [] w4 (l ++ ([(b1, SpObj sp), (b, ZeroVal)] ++ r)) := S4.permR (perm_by fun f => by simp only [List.map_append, List.sum_append, List.map_cons, List.sum_cons, List.map_nil, List.sum_nil]; omega)
  have hdo := hid (htx.out w4 _ S4)
  clear htx S4
  go_wp2_with fail
  refine hdo.out.mono ?_
  rintro e w5 ⟨la, lc, xl, l5, rfl, hxl, hX5, S5⟩
  clear hdo hX
  replace hX5 := hid hX5
  obtain ⟨m, hm⟩ : ∃ m, m = xs.length := ⟨_, rfl⟩
  rw [← hm] at hxl ⊢
  replace hm := hid hm
  replace hxl := hid hxl
  unfold ansVal
  go_upto_region 7 with fail
  have S6 := S5.alloc (ValObj kd tx nn (.slice la m lc))
  generalize hw6 : w5.alloc _ = w6
  replace S6 : Step w0 [] w6 _ := hw6 ▸ S6
  clear hw6 S5
  generalize w5.heap.size = b2 at S6 ⊢
  have S7 : Step w0 [] w6 ((b2, ValObj kd tx nn (.slice la m lc)) :: (l5 ++ (xl ++ ([(b1, SpObj sp), (b, ZeroVal)] ++ r)))) := S6
  clear S6
  obtain ⟨R, hR⟩ : ∃ R : Hp, R = xl ++ ((b2, ValObj kd tx nn (.slice la m lc)) :: (b1, SpObj sp) :: r) := ⟨_, rfl⟩
  have S8 : Step w0 [] w6 (l5 ++ ((b, ZeroVal) :: R)) := S7.permR (perm_by fun f => by
    rw [hR]; simp only [List.map_append, List.sum_append, List.map_cons, List.sum_cons, List.map_nil, List.sum_nil]; omega)
  have hevs : ∀ (w' : World), Hid (Step w0 [] w' (l5 ++ ((b, ZeroVal) :: R))) → Hid (Calls _ _ _ w' _) := fun w' hS => hid (events_any (r := (b, ZeroVal) :: R) hS.out hX5.out)
  have hs1 : Hid (Step w0 [] w6.drew (l5 ++ ((b, ZeroVal) :: R))) := hid S8.drew
  have hx1 : Hid (InX w0 R w6.drew) := hid ⟨l5 ++ [(b, ZeroVal)], by rw [List.append_assoc]; exact S8.drew⟩
  have hm2 : (b2, ValObj kd tx nn (.slice la m lc)) ∈ R := by rw [hR]; simp
  have hkeep : Hid (∀ w' : World, Hid (InX w0 R w') → w'.cell? ⟨b2, 0, none⟩ = some (.int .i64 kd) ∧ w'.cell? ⟨b2, 1, none⟩ = some (.string tx) ∧ w'.cell? ⟨b2, 2, none⟩ = some (.int .i64 nn) ∧ w'.cell? ⟨b2, 3, none⟩ = some (.float .f64 0) ∧ w'.cell? ⟨b2, 4, none⟩ = some (.bool false) ∧ w'.cell? ⟨b2, 5, none⟩ = some (.slice la m lc) ∧ Hid (InX w0 R w')) := hid fun w' hw => by
    have hh := InX.get hw hm2
    exact ⟨cells_get hh 0, cells_get hh 1, cells_get hh 2, cells_get hh 3, cells_get hh 4, cells_get hh 5, hw⟩
  replace hR := hid hR
  clear hm2 S7 S8 hargs
  go_upto_region 11 with fail
  go_region_held3 (fun w' => w'.cell? ⟨b2, 0, none⟩ = some (.int .i64 kd) ∧ w'.cell? ⟨b2, 1, none⟩ = some (.string tx) ∧ w'.cell? ⟨b2, 2, none⟩ = some (.int .i64 nn) ∧ w'.cell? ⟨b2, 3, none⟩ = some (.float .f64 0) ∧ w'.cell? ⟨b2, 4, none⟩ = some (.bool false) ∧ w'.cell? ⟨b2, 5, none⟩ = some (.slice la m lc) ∧ Hid (InX w0 R w'))
    (first | (with_reducible exact hkeep.out _ hx1) | (with_reducible exact hkeep.out _ (hset.out _ _ _ _ _ _)) | (with_reducible exact hkeep.out _ (by assumption)) | (fail "keep"))
    (first | (go_at_call 19; refine ((hevs _) hs1).out.mono ?_; rintro e w11 ⟨ev, vl, l3, rfl, hsv, hX3, S2⟩; have S3 := S2.permR (l2 := (b, ZeroVal) :: ((l3 ++ vl) ++ R)) (perm_by fun f => by simp only [List.map_append, List.sum_append, List.map_cons, List.sum_cons, List.map_nil, List.sum_nil]; omega); obtain ⟨⟨c0, hc0⟩, ⟨c1, hc1⟩, ⟨c2, hc2⟩, ⟨c3, hc3⟩, ⟨c4, hc4⟩, ⟨c5, hc5⟩, fz, hlt⟩ := cells6' S3.own.head; have hset : Hid (∀ v0 v1 v2 v3 v4 v5, _) := hid fun v0 v1 v2 v3 v4 v5 => InX.set6 (A := l3 ++ vl) (R := R) S3 v0 v1 v2 v3 v4 v5; have hx3 : Hid (InX w0 R w11) := hid (S3.inX ([(b, ZeroVal)] ++ (l3 ++ vl)) (by simp)); replace S3 := hid S3; replace hsv := hid hsv; replace hX3 := hid hX3; clear S2))
  all_goals (
    have S9 : Step w0 [] _ ((b, ValObj kd tx nn (.slice la m lc)) :: _) := S3.out.setVal kd tx nn (.slice la m lc)
    rw [hR.out] at S9
    replace S9 := hid (S9.pick (l2 := l3 ++ (xl ++ (vl ++ r))) (m := [(b, ValObj kd tx nn (.slice la m lc)), (b2, ValObj kd tx nn (.slice la m lc)), (b1, SpObj sp)]) (perm_by fun f => by simp only [List.map_append, List.sum_append, List.map_cons, List.sum_cons, List.map_nil, List.sum_nil]; omega))
    clear hevs hs1 hx1 hkeep hset hx3 S3 hR
    go_wp2_with fail
    refine bodyPost_ret (v := .tuple #[ansVal kd tx nn (.slice la m lc), ev]) (by simp [results, Tryz.results10, go_sem, ansVal, *] <;> rfl) rfl ?_
    have q1 := hxl.out
    have q2 := S9.out
    rw [hm.out] at q1 q2 ⊢
    exact ⟨la, lc, ev, xl, vl, l3, rfl, q1, hsv.out, hX3.out, q2⟩)

set_option maxRecDepth 100000 in
set_option maxHeartbeats 4000000 in
theorem run_field {w0 w : World} {l r : Hp} {sb : Nat} {S S' : St} {g off : Nat} {c : ByteArray} {ws : List ByteArray} {kd nn : Int} {tx : ByteArray} {xs : List Lf} (h : Ctx w0 w l r sb S g off (c :: ws)) (sp : Sp) (hc : wcheck (c :: ws) = (sp, ByteArray.empty)) (hk : isKeys (sp, ByteArray.empty) = true) (now : Int) (cap : Nat)
    (htx : ∀ (w' : World) (x : Hp), Step w0 [] w' (l ++ (x ++ r)) → Calls Tryz.prog 28 #[ptr sb, .int .i64 now, .slice (some ⟨g, off, none⟩) (c :: ws).length cap] w' (NoPost w0 (l ++ (x ++ r))))
    (hfd : ∀ (w' : World) (x : Hp), Step w0 [] w' (l ++ (x ++ r)) → Calls Tryz.prog 29 #[ptr sb, .int .i64 now, .slice (some ⟨g, off, none⟩) (c :: ws).length cap] w' (FDoEnd w0 (x ++ r) sb S' kd tx nn xs)) :
    Calls Tryz.prog 10 #[ptr sb, .int .i64 now, .slice (some ⟨g, off, none⟩) (c :: ws).length cap] w (RunEnd w0 r sb S' kd tx nn xs) := by
  have H := h.alloc ZeroVal
  have hchk := check_some H.st (H.args.more (x := l)) cap
  have hargs := hid (h.args)
  have hX := hid h.is
  rw [hc] at hchk
  unfold CheckPost Sp.val specVal at hchk
  simp only at hchk
  have his : ∀ (w' : World) (L : Hp), Hid (Step w0 [] w' (L ++ r)) → Hid (Calls _ _ _ w' _) := fun w' L hS => hid (is_some hS.out (h.args.more (x := L)) cap)
  rw [hc, hk] at his
  clear hc hk
  obtain ⟨n, hlen⟩ : ∃ n, (c :: ws).length = n := ⟨_, rfl⟩
  rw [hlen] at hchk his htx hfd ⊢
  replace hlen := hid hlen
  replace hchk := hid hchk
  replace htx := hid htx
  replace hfd := hid hfd
  clear h H
  go_enter Tryz.func10, Tryz.ntmps10
  go_wp2_with fail
  refine hchk.out.mono ?_
  rintro e w2 ⟨rfl, S2⟩
  clear hchk
  generalize w.heap.size = b at S2 ⊢
  go_upto_region 2 with fail
  have S3 := S2.alloc (.cells #[.string sp.name, .int .i64 sp.kind, .int .i64 sp.least, .int .i64 sp.most, .int .i64 sp.first, .int .i64 sp.last, .int .i64 sp.step] 48)
  generalize hw3 : w2.alloc _ = w3
  replace S3 : Step w0 [] w3 ((w2.heap.size, SpObj sp) :: _) := hw3 ▸ S3
  clear hw3 S2
  generalize w2.heap.size = b1 at S3 ⊢
  have hi := his w3 ([(b1, SpObj sp), (b, ZeroVal)] ++ l) (hid (S3.permR (perm_by fun f => by simp only [List.map_append, List.sum_append, List.map_cons, List.sum_cons, List.map_nil, List.sum_nil]; omega)))
  clear his
  replace S3 := hid S3
  go_wp2_with fail
  refine hi.out.mono ?_
  rintro e w4 ⟨rfl, S4⟩
  clear hi S3
  replace S4 : Step w0 [] w4 (l ++ ([(b1, SpObj sp), (b, ZeroVal)] ++ r)) := S4.permR (perm_by fun f => by simp only [List.map_append, List.sum_append, List.map_cons, List.sum_cons, List.map_nil, List.sum_nil]; omega)
  have hdo := hid (htx.out w4 _ S4)
  clear htx S4
  go_wp2_with fail
  refine hdo.out.mono ?_
  rintro e w5 ⟨rfl, S5⟩
  clear hdo
  unfold ansVal
  go_upto_region 8 with fail
  have S6 := S5.alloc (ValObj 0 ByteArray.empty 0 (.slice none 0 0))
  generalize hw6 : w5.alloc _ = w6
  replace S6 : Step w0 [] w6 _ := hw6 ▸ S6
  clear hw6 S5
  generalize w5.heap.size = b2 at S6 ⊢
  replace S6 : Step w0 [] w6 (l ++ ((b2, ValObj 0 ByteArray.empty 0 (.slice none 0 0)) :: ([(b1, SpObj sp), (b, ZeroVal)] ++ r))) := S6.permR (perm_by fun f => by simp only [List.map_append, List.sum_append, List.map_cons, List.sum_cons, List.map_nil, List.sum_nil]; omega)
  have hdo := hid (hfd.out w6 ((b2, ValObj 0 ByteArray.empty 0 (.slice none 0 0)) :: [(b1, SpObj sp), (b, ZeroVal)]) S6)
  clear hfd S6
  go_wp2_with fail
  refine hdo.out.mono ?_
  rintro e w7 ⟨la, lc, xl, l5, rfl, hxl, hX5, S7⟩
  clear hdo hX
  replace hX5 := hid hX5
  obtain ⟨m, hm⟩ : ∃ m, m = xs.length := ⟨_, rfl⟩
  rw [← hm] at hxl ⊢
  replace hm := hid hm
  replace hxl := hid hxl
  replace S7 : Step w0 [] w7 ((b2, ValObj 0 ByteArray.empty 0 (.slice none 0 0)) :: (l5 ++ (xl ++ ([(b1, SpObj sp), (b, ZeroVal)] ++ r)))) := S7.permR (perm_by fun f => by simp only [List.map_append, List.sum_append, List.map_cons, List.sum_cons, List.map_nil, List.sum_nil]; omega)
  obtain ⟨⟨c0, hc0⟩, ⟨c1, hc1⟩, ⟨c2, hc2⟩, ⟨c3, hc3⟩, ⟨c4, hc4⟩, ⟨c5, hc5⟩, fz, hlt⟩ := cells6' S7.own.head
  replace S7 : Step w0 [] _ ((b2, ValObj kd tx nn (.slice la m lc)) :: _) := S7.setVal kd tx nn (.slice la m lc)
  unfold ansVal
  go_upto_region 9 with fail
  clear c0 hc0 c1 hc1 c2 hc2 c3 hc3 c4 hc4 c5 hc5 fz hlt
  generalize hw8 : (((((w7.setCell _ _).setCell _ _).setCell _ _).setCell _ _).setCell _ _).setCell _ _ = w6 at S7 ⊢
  clear hw8
  obtain ⟨R, hR⟩ : ∃ R : Hp, R = xl ++ ((b2, ValObj kd tx nn (.slice la m lc)) :: (b1, SpObj sp) :: r) := ⟨_, rfl⟩
  have S8 : Step w0 [] w6 (l5 ++ ((b, ZeroVal) :: R)) := S7.permR (perm_by fun f => by
    rw [hR]; simp only [List.map_append, List.sum_append, List.map_cons, List.sum_cons, List.map_nil, List.sum_nil]; omega)
  have hevs : ∀ (w' : World), Hid (Step w0 [] w' (l5 ++ ((b, ZeroVal) :: R))) → Hid (Calls _ _ _ w' _) := fun w' hS => hid (events_any (r := (b, ZeroVal) :: R) hS.out hX5.out)
  have hs1 : Hid (Step w0 [] w6.drew (l5 ++ ((b, ZeroVal) :: R))) := hid S8.drew
  have hx1 : Hid (InX w0 R w6.drew) := hid ⟨l5 ++ [(b, ZeroVal)], by rw [List.append_assoc]; exact S8.drew⟩
  have hm2 : (b2, ValObj kd tx nn (.slice la m lc)) ∈ R := by rw [hR]; simp
  have hkeep : Hid (∀ w' : World, Hid (InX w0 R w') → w'.cell? ⟨b2, 0, none⟩ = some (.int .i64 kd) ∧ w'.cell? ⟨b2, 1, none⟩ = some (.string tx) ∧ w'.cell? ⟨b2, 2, none⟩ = some (.int .i64 nn) ∧ w'.cell? ⟨b2, 3, none⟩ = some (.float .f64 0) ∧ w'.cell? ⟨b2, 4, none⟩ = some (.bool false) ∧ w'.cell? ⟨b2, 5, none⟩ = some (.slice la m lc) ∧ Hid (InX w0 R w')) := hid fun w' hw => by
    have hh := InX.get hw hm2
    exact ⟨cells_get hh 0, cells_get hh 1, cells_get hh 2, cells_get hh 3, cells_get hh 4, cells_get hh 5, hw⟩
  replace hR := hid hR
  clear hm2 S7 S8 hargs
  go_upto_region 11 with fail
  go_region_held3 (fun w' => w'.cell? ⟨b2, 0, none⟩ = some (.int .i64 kd) ∧ w'.cell? ⟨b2, 1, none⟩ = some (.string tx) ∧ w'.cell? ⟨b2, 2, none⟩ = some (.int .i64 nn) ∧ w'.cell? ⟨b2, 3, none⟩ = some (.float .f64 0) ∧ w'.cell? ⟨b2, 4, none⟩ = some (.bool false) ∧ w'.cell? ⟨b2, 5, none⟩ = some (.slice la m lc) ∧ Hid (InX w0 R w'))
    (first | (with_reducible exact hkeep.out _ hx1) | (with_reducible exact hkeep.out _ (hset.out _ _ _ _ _ _)) | (with_reducible exact hkeep.out _ (by assumption)) | (fail "keep"))
    (first | (go_at_call 19; refine ((hevs _) hs1).out.mono ?_; rintro e w11 ⟨ev, vl, l3, rfl, hsv, hX3, S2⟩; have S3 := S2.permR (l2 := (b, ZeroVal) :: ((l3 ++ vl) ++ R)) (perm_by fun f => by simp only [List.map_append, List.sum_append, List.map_cons, List.sum_cons, List.map_nil, List.sum_nil]; omega); obtain ⟨⟨c0, hc0⟩, ⟨c1, hc1⟩, ⟨c2, hc2⟩, ⟨c3, hc3⟩, ⟨c4, hc4⟩, ⟨c5, hc5⟩, fz, hlt⟩ := cells6' S3.own.head; have hset : Hid (∀ v0 v1 v2 v3 v4 v5, _) := hid fun v0 v1 v2 v3 v4 v5 => InX.set6 (A := l3 ++ vl) (R := R) S3 v0 v1 v2 v3 v4 v5; have hx3 : Hid (InX w0 R w11) := hid (S3.inX ([(b, ZeroVal)] ++ (l3 ++ vl)) (by simp)); replace S3 := hid S3; replace hsv := hid hsv; replace hX3 := hid hX3; clear S2))
  all_goals (
    have S9 : Step w0 [] _ ((b, ValObj kd tx nn (.slice la m lc)) :: _) := S3.out.setVal kd tx nn (.slice la m lc)
    rw [hR.out] at S9
    replace S9 := hid (S9.pick (l2 := l3 ++ (xl ++ (vl ++ r))) (m := [(b, ValObj kd tx nn (.slice la m lc)), (b2, ValObj kd tx nn (.slice la m lc)), (b1, SpObj sp)]) (perm_by fun f => by simp only [List.map_append, List.sum_append, List.map_cons, List.sum_cons, List.map_nil, List.sum_nil]; omega))
    clear hevs hs1 hx1 hkeep hset hx3 S3 hR
    go_wp2_with fail
    refine bodyPost_ret (v := .tuple #[ansVal kd tx nn (.slice la m lc), ev]) (by simp [results, Tryz.results10, go_sem, ansVal, *] <;> rfl) rfl ?_
    have q1 := hxl.out
    have q2 := S9.out
    rw [hm.out] at q1 q2 ⊢
    exact ⟨la, lc, ev, xl, vl, l3, rfl, q1, hsv.out, hX3.out, q2⟩)

set_option maxRecDepth 100000 in
set_option maxHeartbeats 4000000 in
theorem run_own {w0 w : World} {l r : Hp} {sb : Nat} {S S' : St} {g off : Nat} {c : ByteArray} {ws : List ByteArray} {kd nn : Int} {tx : ByteArray} {xs : List Lf} (h : Ctx w0 w l r sb S g off (c :: ws)) (sp : Sp) (hc : wcheck (c :: ws) = (sp, ByteArray.empty)) (hk : isKeys (sp, ByteArray.empty) = true) (now : Int) (cap : Nat)
    (htx : ∀ (w' : World) (x : Hp), Step w0 [] w' (l ++ (x ++ r)) → Calls Tryz.prog 28 #[ptr sb, .int .i64 now, .slice (some ⟨g, off, none⟩) (c :: ws).length cap] w' (NoPost w0 (l ++ (x ++ r))))
    (hfd : ∀ (w' : World) (x : Hp), Step w0 [] w' (l ++ (x ++ r)) → Calls Tryz.prog 29 #[ptr sb, .int .i64 now, .slice (some ⟨g, off, none⟩) (c :: ws).length cap] w' (NoPost w0 (l ++ (x ++ r))))
    (hcap : (c :: ws).length ≤ cap) (hc1 : ¬ cap - 1 = 0)
    (how : ∀ (w' : World) (x : Hp), Step w0 [] w' (l ++ (x ++ r)) → Calls Tryz.prog 30 #[ptr sb, .int .i64 now, .string sp.name, .slice (some ⟨g, off + 1, none⟩) ((c :: ws).length - 1) (cap - 1)] w' (FEnd w0 (x ++ r) sb S' kd tx nn xs)) :
    Calls Tryz.prog 10 #[ptr sb, .int .i64 now, .slice (some ⟨g, off, none⟩) (c :: ws).length cap] w (RunEnd w0 r sb S' kd tx nn xs) := by
  have H := h.alloc ZeroVal
  have hchk := check_some H.st (H.args.more (x := l)) cap
  have hargs := hid (h.args)
  have hX := hid h.is
  rw [hc] at hchk
  unfold CheckPost Sp.val specVal at hchk
  simp only at hchk
  have his : ∀ (w' : World) (L : Hp), Hid (Step w0 [] w' (L ++ r)) → Hid (Calls _ _ _ w' _) := fun w' L hS => hid (is_some hS.out (h.args.more (x := L)) cap)
  rw [hc, hk] at his
  clear hc hk
  obtain ⟨n, hlen⟩ : ∃ n, (c :: ws).length = n := ⟨_, rfl⟩
  rw [hlen] at hchk his htx hfd how ⊢
  have hn : 0 < n := by rw [← hlen]; simp only [List.length_cons]; omega
  have hnc : n ≤ cap := by rw [← hlen]; exact hcap
  have hn1 : (1 : Int) ≤ (n : Int) := by omega
  replace hcap := hid hcap
  replace hlen := hid hlen
  replace hchk := hid hchk
  replace htx := hid htx
  replace hfd := hid hfd
  replace how := hid how
  clear h H
  go_enter Tryz.func10, Tryz.ntmps10
  go_wp2_with fail
  refine hchk.out.mono ?_
  rintro e w2 ⟨rfl, S2⟩
  clear hchk
  generalize w.heap.size = b at S2 ⊢
  go_upto_region 2 with fail
  have S3 := S2.alloc (.cells #[.string sp.name, .int .i64 sp.kind, .int .i64 sp.least, .int .i64 sp.most, .int .i64 sp.first, .int .i64 sp.last, .int .i64 sp.step] 48)
  generalize hw3 : w2.alloc _ = w3
  replace S3 : Step w0 [] w3 ((w2.heap.size, SpObj sp) :: _) := hw3 ▸ S3
  clear hw3 S2
  generalize w2.heap.size = b1 at S3 ⊢
  have hi := his w3 ([(b1, SpObj sp), (b, ZeroVal)] ++ l) (hid (S3.permR (perm_by fun f => by simp only [List.map_append, List.sum_append, List.map_cons, List.sum_cons, List.map_nil, List.sum_nil]; omega)))
  clear his
  replace S3 := hid S3
  go_wp2_with fail
  refine hi.out.mono ?_
  rintro e w4 ⟨rfl, S4⟩
  clear hi S3
  replace S4 : Step w0 [] w4 (l ++ ([(b1, SpObj sp), (b, ZeroVal)] ++ r)) := S4.permR (perm_by fun f => by simp only [List.map_append, List.sum_append, List.map_cons, List.sum_cons, List.map_nil, List.sum_nil]; omega)
  have hdo := hid (htx.out w4 _ S4)
  clear htx S4
  go_wp2_with fail
  refine hdo.out.mono ?_
  rintro e w5 ⟨rfl, S5⟩
  clear hdo
  unfold ansVal
  go_upto_region 8 with fail
  have S6 := S5.alloc (ValObj 0 ByteArray.empty 0 (.slice none 0 0))
  generalize hw6 : w5.alloc _ = w6
  replace S6 : Step w0 [] w6 _ := hw6 ▸ S6
  clear hw6 S5
  generalize w5.heap.size = b2 at S6 ⊢
  replace S6 : Step w0 [] w6 (l ++ ((b2, ValObj 0 ByteArray.empty 0 (.slice none 0 0)) :: ([(b1, SpObj sp), (b, ZeroVal)] ++ r))) := S6.permR (perm_by fun f => by simp only [List.map_append, List.sum_append, List.map_cons, List.sum_cons, List.map_nil, List.sum_nil]; omega)
  have hdo := hid (hfd.out w6 ((b2, ValObj 0 ByteArray.empty 0 (.slice none 0 0)) :: [(b1, SpObj sp), (b, ZeroVal)]) S6)
  clear hfd S6
  go_wp2_with fail
  refine hdo.out.mono ?_
  rintro e w7 ⟨rfl, S7⟩
  clear hdo
  replace S7 : Step w0 [] w7 ((b2, ValObj 0 ByteArray.empty 0 (.slice none 0 0)) :: (l ++ ([(b1, SpObj sp), (b, ZeroVal)] ++ r))) := S7.permR (perm_by fun f => by simp only [List.map_append, List.sum_append, List.map_cons, List.sum_cons, List.map_nil, List.sum_nil]; omega)
  obtain ⟨⟨c0, hc0⟩, ⟨c1, hc1⟩, ⟨c2, hc2⟩, ⟨c3, hc3⟩, ⟨c4, hc4⟩, ⟨c5, hc5⟩, fz, hlt⟩ := cells6' S7.own.head
  replace S7 : Step w0 [] _ ((b2, ValObj 0 ByteArray.empty 0 (.slice none 0 0)) :: _) := S7.setVal 0 ByteArray.empty 0 (.slice none 0 0)
  unfold ansVal
  go_upto_region 9 with fail
  clear c0 hc0 c1 hc1 c2 hc2 c3 hc3 c4 hc4 c5 hc5 fz hlt
  generalize hw8 : (((((w7.setCell _ _).setCell _ _).setCell _ _).setCell _ _).setCell _ _).setCell _ _ = w8 at S7 ⊢
  clear hw8
  go_upto_region 10 with fail
  obtain ⟨L, hL⟩ : ∃ L : Hp, L = (b2, ValObj 0 ByteArray.empty 0 (.slice none 0 0)) :: (l ++ ([(b1, SpObj sp), (b, ZeroVal)] ++ r)) := ⟨_, rfl⟩
  rw [← hL] at S7
  have hm1 : (b1, SpObj sp) ∈ L := by rw [hL]; simp
  have nm : ∀ p : InW w0 [] L, p.w.cell? ⟨b1, 0, none⟩ = some (.string sp.name) := fun p => cells_get (p.h.own.at_ _ hm1) 0
  replace hL := hid hL
  clear hm1
  refine wp_region_tail 6 S7 (by kernel_rfl) (by kernel_rfl) (fun hne => ?_)
  simp only [List.take_succ_cons, List.take_zero, List.drop_succ_cons, List.drop_zero]
  replace S7 := hid S7
  repeat (go_big_quiet_step (fail))
  refine tail_nil fun w9 S10 => ?_
  clear nm hne S7
  rw [hL.out] at S10
  have hdo := hid (how.out w9 ((b2, ValObj 0 ByteArray.empty 0 (.slice none 0 0)) :: [(b1, SpObj sp), (b, ZeroVal)]) (S10.permR (perm_by fun f => by simp only [List.map_append, List.sum_append, List.map_cons, List.sum_cons, List.map_nil, List.sum_nil]; omega)))
  clear how S10
  go_wp2_with fail
  refine hdo.out.mono ?_
  rintro e w10 ⟨la, lc, xl, l5, rfl, hxl, hX5, S7⟩
  clear hdo hX
  replace hX5 := hid hX5
  obtain ⟨m, hm⟩ : ∃ m, m = xs.length := ⟨_, rfl⟩
  rw [← hm] at hxl ⊢
  replace hm := hid hm
  replace hxl := hid hxl
  replace S7 : Step w0 [] w10 ((b2, ValObj 0 ByteArray.empty 0 (.slice none 0 0)) :: (l5 ++ (xl ++ ([(b1, SpObj sp), (b, ZeroVal)] ++ r)))) := S7.permR (perm_by fun f => by simp only [List.map_append, List.sum_append, List.map_cons, List.sum_cons, List.map_nil, List.sum_nil]; omega)
  obtain ⟨⟨c0, hc0⟩, ⟨c1, hc1⟩, ⟨c2, hc2⟩, ⟨c3, hc3⟩, ⟨c4, hc4⟩, ⟨c5, hc5⟩, fz, hlt⟩ := cells6' S7.own.head
  replace S7 : Step w0 [] _ ((b2, ValObj kd tx nn (.slice la m lc)) :: _) := S7.setVal kd tx nn (.slice la m lc)
  unfold ansVal
  go_upto_region 11 with fail
  clear c0 hc0 c1 hc1 c2 hc2 c3 hc3 c4 hc4 c5 hc5 fz hlt
  generalize hw8 : (((((w10.setCell _ _).setCell _ _).setCell _ _).setCell _ _).setCell _ _).setCell _ _ = w6 at S7 ⊢
  clear hw8
  obtain ⟨R, hR⟩ : ∃ R : Hp, R = xl ++ ((b2, ValObj kd tx nn (.slice la m lc)) :: (b1, SpObj sp) :: r) := ⟨_, rfl⟩
  have S8 : Step w0 [] w6 (l5 ++ ((b, ZeroVal) :: R)) := S7.permR (perm_by fun f => by
    rw [hR]; simp only [List.map_append, List.sum_append, List.map_cons, List.sum_cons, List.map_nil, List.sum_nil]; omega)
  have hevs : ∀ (w' : World), Hid (Step w0 [] w' (l5 ++ ((b, ZeroVal) :: R))) → Hid (Calls _ _ _ w' _) := fun w' hS => hid (events_any (r := (b, ZeroVal) :: R) hS.out hX5.out)
  have hs1 : Hid (Step w0 [] w6.drew (l5 ++ ((b, ZeroVal) :: R))) := hid S8.drew
  have hx1 : Hid (InX w0 R w6.drew) := hid ⟨l5 ++ [(b, ZeroVal)], by rw [List.append_assoc]; exact S8.drew⟩
  have hm2 : (b2, ValObj kd tx nn (.slice la m lc)) ∈ R := by rw [hR]; simp
  have hkeep : Hid (∀ w' : World, Hid (InX w0 R w') → w'.cell? ⟨b2, 0, none⟩ = some (.int .i64 kd) ∧ w'.cell? ⟨b2, 1, none⟩ = some (.string tx) ∧ w'.cell? ⟨b2, 2, none⟩ = some (.int .i64 nn) ∧ w'.cell? ⟨b2, 3, none⟩ = some (.float .f64 0) ∧ w'.cell? ⟨b2, 4, none⟩ = some (.bool false) ∧ w'.cell? ⟨b2, 5, none⟩ = some (.slice la m lc) ∧ Hid (InX w0 R w')) := hid fun w' hw => by
    have hh := InX.get hw hm2
    exact ⟨cells_get hh 0, cells_get hh 1, cells_get hh 2, cells_get hh 3, cells_get hh 4, cells_get hh 5, hw⟩
  replace hR := hid hR
  clear hm2 S7 S8 hargs
  go_upto_region 11 with fail
  go_region_held3 (fun w' => w'.cell? ⟨b2, 0, none⟩ = some (.int .i64 kd) ∧ w'.cell? ⟨b2, 1, none⟩ = some (.string tx) ∧ w'.cell? ⟨b2, 2, none⟩ = some (.int .i64 nn) ∧ w'.cell? ⟨b2, 3, none⟩ = some (.float .f64 0) ∧ w'.cell? ⟨b2, 4, none⟩ = some (.bool false) ∧ w'.cell? ⟨b2, 5, none⟩ = some (.slice la m lc) ∧ Hid (InX w0 R w'))
    (first | (with_reducible exact hkeep.out _ hx1) | (with_reducible exact hkeep.out _ (hset.out _ _ _ _ _ _)) | (with_reducible exact hkeep.out _ (by assumption)) | (fail "keep"))
    (first | (go_at_call 19; refine ((hevs _) hs1).out.mono ?_; rintro e w11 ⟨ev, vl, l3, rfl, hsv, hX3, S2⟩; have S3 := S2.permR (l2 := (b, ZeroVal) :: ((l3 ++ vl) ++ R)) (perm_by fun f => by simp only [List.map_append, List.sum_append, List.map_cons, List.sum_cons, List.map_nil, List.sum_nil]; omega); obtain ⟨⟨c0, hc0⟩, ⟨c1, hc1⟩, ⟨c2, hc2⟩, ⟨c3, hc3⟩, ⟨c4, hc4⟩, ⟨c5, hc5⟩, fz, hlt⟩ := cells6' S3.own.head; have hset : Hid (∀ v0 v1 v2 v3 v4 v5, _) := hid fun v0 v1 v2 v3 v4 v5 => InX.set6 (A := l3 ++ vl) (R := R) S3 v0 v1 v2 v3 v4 v5; have hx3 : Hid (InX w0 R w11) := hid (S3.inX ([(b, ZeroVal)] ++ (l3 ++ vl)) (by simp)); replace S3 := hid S3; replace hsv := hid hsv; replace hX3 := hid hX3; clear S2))
  all_goals (
    have S9 : Step w0 [] _ ((b, ValObj kd tx nn (.slice la m lc)) :: _) := S3.out.setVal kd tx nn (.slice la m lc)
    rw [hR.out] at S9
    replace S9 := hid (S9.pick (l2 := l3 ++ (xl ++ (vl ++ r))) (m := [(b, ValObj kd tx nn (.slice la m lc)), (b2, ValObj kd tx nn (.slice la m lc)), (b1, SpObj sp)]) (perm_by fun f => by simp only [List.map_append, List.sum_append, List.map_cons, List.sum_cons, List.map_nil, List.sum_nil]; omega))
    clear hevs hs1 hx1 hkeep hset hx3 S3 hR
    go_wp2_with fail
    refine bodyPost_ret (v := .tuple #[ansVal kd tx nn (.slice la m lc), ev]) (by simp [results, Tryz.results10, go_sem, ansVal, *] <;> rfl) rfl ?_
    have q1 := hxl.out
    have q2 := S9.out
    rw [hm.out] at q1 q2 ⊢
    exact ⟨la, lc, ev, xl, vl, l3, rfl, q1, hsv.out, hX3.out, q2⟩)

set_option maxRecDepth 100000 in
set_option maxHeartbeats 4000000 in
theorem run_own1 {w0 w : World} {l r : Hp} {sb : Nat} {S S' : St} {g off : Nat} {c : ByteArray} {ws : List ByteArray} {kd nn : Int} {tx : ByteArray} {xs : List Lf} (h : Ctx w0 w l r sb S g off (c :: ws)) (sp : Sp) (hc : wcheck (c :: ws) = (sp, ByteArray.empty)) (hk : isKeys (sp, ByteArray.empty) = true) (now : Int) (cap : Nat)
    (htx : ∀ (w' : World) (x : Hp), Step w0 [] w' (l ++ (x ++ r)) → Calls Tryz.prog 28 #[ptr sb, .int .i64 now, .slice (some ⟨g, off, none⟩) (c :: ws).length cap] w' (NoPost w0 (l ++ (x ++ r))))
    (hfd : ∀ (w' : World) (x : Hp), Step w0 [] w' (l ++ (x ++ r)) → Calls Tryz.prog 29 #[ptr sb, .int .i64 now, .slice (some ⟨g, off, none⟩) (c :: ws).length cap] w' (NoPost w0 (l ++ (x ++ r))))
    (hcap : (c :: ws).length ≤ cap) (hc1 : cap - 1 = 0)
    (how : ∀ (w' : World) (x : Hp), Step w0 [] w' (l ++ (x ++ r)) → Calls Tryz.prog 30 #[ptr sb, .int .i64 now, .string sp.name, .slice (some ⟨g, off, none⟩) ((c :: ws).length - 1) 0] w' (FEnd w0 (x ++ r) sb S' kd tx nn xs)) :
    Calls Tryz.prog 10 #[ptr sb, .int .i64 now, .slice (some ⟨g, off, none⟩) (c :: ws).length cap] w (RunEnd w0 r sb S' kd tx nn xs) := by
  have H := h.alloc ZeroVal
  have hchk := check_some H.st (H.args.more (x := l)) cap
  have hargs := hid (h.args)
  have hX := hid h.is
  rw [hc] at hchk
  unfold CheckPost Sp.val specVal at hchk
  simp only at hchk
  have his : ∀ (w' : World) (L : Hp), Hid (Step w0 [] w' (L ++ r)) → Hid (Calls _ _ _ w' _) := fun w' L hS => hid (is_some hS.out (h.args.more (x := L)) cap)
  rw [hc, hk] at his
  clear hc hk
  obtain ⟨n, hlen⟩ : ∃ n, (c :: ws).length = n := ⟨_, rfl⟩
  rw [hlen] at hchk his htx hfd how ⊢
  have hn : 0 < n := by rw [← hlen]; simp only [List.length_cons]; omega
  have hnc : n ≤ cap := by rw [← hlen]; exact hcap
  have hn1 : (1 : Int) ≤ (n : Int) := by omega
  replace hcap := hid hcap
  replace hlen := hid hlen
  replace hchk := hid hchk
  replace htx := hid htx
  replace hfd := hid hfd
  replace how := hid how
  clear h H
  go_enter Tryz.func10, Tryz.ntmps10
  go_wp2_with fail
  refine hchk.out.mono ?_
  rintro e w2 ⟨rfl, S2⟩
  clear hchk
  generalize w.heap.size = b at S2 ⊢
  go_upto_region 2 with fail
  have S3 := S2.alloc (.cells #[.string sp.name, .int .i64 sp.kind, .int .i64 sp.least, .int .i64 sp.most, .int .i64 sp.first, .int .i64 sp.last, .int .i64 sp.step] 48)
  generalize hw3 : w2.alloc _ = w3
  replace S3 : Step w0 [] w3 ((w2.heap.size, SpObj sp) :: _) := hw3 ▸ S3
  clear hw3 S2
  generalize w2.heap.size = b1 at S3 ⊢
  have hi := his w3 ([(b1, SpObj sp), (b, ZeroVal)] ++ l) (hid (S3.permR (perm_by fun f => by simp only [List.map_append, List.sum_append, List.map_cons, List.sum_cons, List.map_nil, List.sum_nil]; omega)))
  clear his
  replace S3 := hid S3
  go_wp2_with fail
  refine hi.out.mono ?_
  rintro e w4 ⟨rfl, S4⟩
  clear hi S3
  replace S4 : Step w0 [] w4 (l ++ ([(b1, SpObj sp), (b, ZeroVal)] ++ r)) := S4.permR (perm_by fun f => by simp only [List.map_append, List.sum_append, List.map_cons, List.sum_cons, List.map_nil, List.sum_nil]; omega)
  have hdo := hid (htx.out w4 _ S4)
  clear htx S4
  go_wp2_with fail
  refine hdo.out.mono ?_
  rintro e w5 ⟨rfl, S5⟩
  clear hdo
  unfold ansVal
  go_upto_region 8 with fail
  have S6 := S5.alloc (ValObj 0 ByteArray.empty 0 (.slice none 0 0))
  generalize hw6 : w5.alloc _ = w6
  replace S6 : Step w0 [] w6 _ := hw6 ▸ S6
  clear hw6 S5
  generalize w5.heap.size = b2 at S6 ⊢
  replace S6 : Step w0 [] w6 (l ++ ((b2, ValObj 0 ByteArray.empty 0 (.slice none 0 0)) :: ([(b1, SpObj sp), (b, ZeroVal)] ++ r))) := S6.permR (perm_by fun f => by simp only [List.map_append, List.sum_append, List.map_cons, List.sum_cons, List.map_nil, List.sum_nil]; omega)
  have hdo := hid (hfd.out w6 ((b2, ValObj 0 ByteArray.empty 0 (.slice none 0 0)) :: [(b1, SpObj sp), (b, ZeroVal)]) S6)
  clear hfd S6
  go_wp2_with fail
  refine hdo.out.mono ?_
  rintro e w7 ⟨rfl, S7⟩
  clear hdo
  replace S7 : Step w0 [] w7 ((b2, ValObj 0 ByteArray.empty 0 (.slice none 0 0)) :: (l ++ ([(b1, SpObj sp), (b, ZeroVal)] ++ r))) := S7.permR (perm_by fun f => by simp only [List.map_append, List.sum_append, List.map_cons, List.sum_cons, List.map_nil, List.sum_nil]; omega)
  obtain ⟨⟨c0, hc0⟩, ⟨c1, hc1⟩, ⟨c2, hc2⟩, ⟨c3, hc3⟩, ⟨c4, hc4⟩, ⟨c5, hc5⟩, fz, hlt⟩ := cells6' S7.own.head
  replace S7 : Step w0 [] _ ((b2, ValObj 0 ByteArray.empty 0 (.slice none 0 0)) :: _) := S7.setVal 0 ByteArray.empty 0 (.slice none 0 0)
  unfold ansVal
  go_upto_region 9 with fail
  clear c0 hc0 c1 hc1 c2 hc2 c3 hc3 c4 hc4 c5 hc5 fz hlt
  generalize hw8 : (((((w7.setCell _ _).setCell _ _).setCell _ _).setCell _ _).setCell _ _).setCell _ _ = w8 at S7 ⊢
  clear hw8
  go_upto_region 10 with fail
  obtain ⟨L, hL⟩ : ∃ L : Hp, L = (b2, ValObj 0 ByteArray.empty 0 (.slice none 0 0)) :: (l ++ ([(b1, SpObj sp), (b, ZeroVal)] ++ r)) := ⟨_, rfl⟩
  rw [← hL] at S7
  have hm1 : (b1, SpObj sp) ∈ L := by rw [hL]; simp
  have nm : ∀ p : InW w0 [] L, p.w.cell? ⟨b1, 0, none⟩ = some (.string sp.name) := fun p => cells_get (p.h.own.at_ _ hm1) 0
  replace hL := hid hL
  clear hm1
  refine wp_region_tail 6 S7 (by kernel_rfl) (by kernel_rfl) (fun hne => ?_)
  simp only [List.take_succ_cons, List.take_zero, List.drop_succ_cons, List.drop_zero]
  replace S7 := hid S7
  repeat (go_big_quiet_step (fail))
  refine tail_nil fun w9 S10 => ?_
  clear nm hne S7
  rw [hL.out] at S10
  have hdo := hid (how.out w9 ((b2, ValObj 0 ByteArray.empty 0 (.slice none 0 0)) :: [(b1, SpObj sp), (b, ZeroVal)]) (S10.permR (perm_by fun f => by simp only [List.map_append, List.sum_append, List.map_cons, List.sum_cons, List.map_nil, List.sum_nil]; omega)))
  clear how S10
  go_wp2_with fail
  refine hdo.out.mono ?_
  rintro e w10 ⟨la, lc, xl, l5, rfl, hxl, hX5, S7⟩
  clear hdo hX
  replace hX5 := hid hX5
  obtain ⟨m, hm⟩ : ∃ m, m = xs.length := ⟨_, rfl⟩
  rw [← hm] at hxl ⊢
  replace hm := hid hm
  replace hxl := hid hxl
  replace S7 : Step w0 [] w10 ((b2, ValObj 0 ByteArray.empty 0 (.slice none 0 0)) :: (l5 ++ (xl ++ ([(b1, SpObj sp), (b, ZeroVal)] ++ r)))) := S7.permR (perm_by fun f => by simp only [List.map_append, List.sum_append, List.map_cons, List.sum_cons, List.map_nil, List.sum_nil]; omega)
  obtain ⟨⟨c0, hc0⟩, ⟨c1, hc1⟩, ⟨c2, hc2⟩, ⟨c3, hc3⟩, ⟨c4, hc4⟩, ⟨c5, hc5⟩, fz, hlt⟩ := cells6' S7.own.head
  replace S7 : Step w0 [] _ ((b2, ValObj kd tx nn (.slice la m lc)) :: _) := S7.setVal kd tx nn (.slice la m lc)
  unfold ansVal
  go_upto_region 11 with fail
  clear c0 hc0 c1 hc1 c2 hc2 c3 hc3 c4 hc4 c5 hc5 fz hlt
  generalize hw8 : (((((w10.setCell _ _).setCell _ _).setCell _ _).setCell _ _).setCell _ _).setCell _ _ = w6 at S7 ⊢
  clear hw8
  obtain ⟨R, hR⟩ : ∃ R : Hp, R = xl ++ ((b2, ValObj kd tx nn (.slice la m lc)) :: (b1, SpObj sp) :: r) := ⟨_, rfl⟩
  have S8 : Step w0 [] w6 (l5 ++ ((b, ZeroVal) :: R)) := S7.permR (perm_by fun f => by
    rw [hR]; simp only [List.map_append, List.sum_append, List.map_cons, List.sum_cons, List.map_nil, List.sum_nil]; omega)
  have hevs : ∀ (w' : World), Hid (Step w0 [] w' (l5 ++ ((b, ZeroVal) :: R))) → Hid (Calls _ _ _ w' _) := fun w' hS => hid (events_any (r := (b, ZeroVal) :: R) hS.out hX5.out)
  have hs1 : Hid (Step w0 [] w6.drew (l5 ++ ((b, ZeroVal) :: R))) := hid S8.drew
  have hx1 : Hid (InX w0 R w6.drew) := hid ⟨l5 ++ [(b, ZeroVal)], by rw [List.append_assoc]; exact S8.drew⟩
  have hm2 : (b2, ValObj kd tx nn (.slice la m lc)) ∈ R := by rw [hR]; simp
  have hkeep : Hid (∀ w' : World, Hid (InX w0 R w') → w'.cell? ⟨b2, 0, none⟩ = some (.int .i64 kd) ∧ w'.cell? ⟨b2, 1, none⟩ = some (.string tx) ∧ w'.cell? ⟨b2, 2, none⟩ = some (.int .i64 nn) ∧ w'.cell? ⟨b2, 3, none⟩ = some (.float .f64 0) ∧ w'.cell? ⟨b2, 4, none⟩ = some (.bool false) ∧ w'.cell? ⟨b2, 5, none⟩ = some (.slice la m lc) ∧ Hid (InX w0 R w')) := hid fun w' hw => by
    have hh := InX.get hw hm2
    exact ⟨cells_get hh 0, cells_get hh 1, cells_get hh 2, cells_get hh 3, cells_get hh 4, cells_get hh 5, hw⟩
  replace hR := hid hR
  clear hm2 S7 S8 hargs
  go_upto_region 11 with fail
  go_region_held3 (fun w' => w'.cell? ⟨b2, 0, none⟩ = some (.int .i64 kd) ∧ w'.cell? ⟨b2, 1, none⟩ = some (.string tx) ∧ w'.cell? ⟨b2, 2, none⟩ = some (.int .i64 nn) ∧ w'.cell? ⟨b2, 3, none⟩ = some (.float .f64 0) ∧ w'.cell? ⟨b2, 4, none⟩ = some (.bool false) ∧ w'.cell? ⟨b2, 5, none⟩ = some (.slice la m lc) ∧ Hid (InX w0 R w'))
    (first | (with_reducible exact hkeep.out _ hx1) | (with_reducible exact hkeep.out _ (hset.out _ _ _ _ _ _)) | (with_reducible exact hkeep.out _ (by assumption)) | (fail "keep"))
    (first | (go_at_call 19; refine ((hevs _) hs1).out.mono ?_; rintro e w11 ⟨ev, vl, l3, rfl, hsv, hX3, S2⟩; have S3 := S2.permR (l2 := (b, ZeroVal) :: ((l3 ++ vl) ++ R)) (perm_by fun f => by simp only [List.map_append, List.sum_append, List.map_cons, List.sum_cons, List.map_nil, List.sum_nil]; omega); obtain ⟨⟨c0, hc0⟩, ⟨c1, hc1⟩, ⟨c2, hc2⟩, ⟨c3, hc3⟩, ⟨c4, hc4⟩, ⟨c5, hc5⟩, fz, hlt⟩ := cells6' S3.own.head; have hset : Hid (∀ v0 v1 v2 v3 v4 v5, _) := hid fun v0 v1 v2 v3 v4 v5 => InX.set6 (A := l3 ++ vl) (R := R) S3 v0 v1 v2 v3 v4 v5; have hx3 : Hid (InX w0 R w11) := hid (S3.inX ([(b, ZeroVal)] ++ (l3 ++ vl)) (by simp)); replace S3 := hid S3; replace hsv := hid hsv; replace hX3 := hid hX3; clear S2))
  all_goals (
    have S9 : Step w0 [] _ ((b, ValObj kd tx nn (.slice la m lc)) :: _) := S3.out.setVal kd tx nn (.slice la m lc)
    rw [hR.out] at S9
    replace S9 := hid (S9.pick (l2 := l3 ++ (xl ++ (vl ++ r))) (m := [(b, ValObj kd tx nn (.slice la m lc)), (b2, ValObj kd tx nn (.slice la m lc)), (b1, SpObj sp)]) (perm_by fun f => by simp only [List.map_append, List.sum_append, List.map_cons, List.sum_cons, List.map_nil, List.sum_nil]; omega))
    clear hevs hs1 hx1 hkeep hset hx3 S3 hR
    go_wp2_with fail
    refine bodyPost_ret (v := .tuple #[ansVal kd tx nn (.slice la m lc), ev]) (by simp [results, Tryz.results10, go_sem, ansVal, *] <;> rfl) rfl ?_
    have q1 := hxl.out
    have q2 := S9.out
    rw [hm.out] at q1 q2 ⊢
    exact ⟨la, lc, ev, xl, vl, l3, rfl, q1, hsv.out, hX3.out, q2⟩)

end Go.Proofs.YthfngplckbggpaaGreatDoor

namespace Go.Proofs.YthfngplckbggpaaGreatDoor
open Go Go.RowKit

theorem RunEnd.letGo {w0 w' : World} {r : Hp} {p : Nat × Obj} {sb : Nat} {S : St} {kd nn : Int} {tx : ByteArray} {xs : List Lf} {e : Ending} (h : RunEnd w0 (p :: r) sb S kd tx nn xs e w') : RunEnd w0 r sb S kd tx nn xs e w' := by
  obtain ⟨a, c, ev, xl, el, l', rfl, h1, h2, h3, h4⟩ := h
  exact ⟨a, c, ev, xl, el, l', rfl, h1, h2, h3, h4.pick (m := [p]) (perm_by fun f => by simp only [List.map_append, List.sum_append, List.map_cons, List.sum_cons, List.map_nil, List.sum_nil]; omega)⟩
theorem DoPost.end_ {w0 w' : World} {r : Hp} {sb : Nat} {S : St} {a : Lf} {e : Ending} (h : DoPost w0 r sb S a e w') : FDoEnd w0 r sb S a.kind a.text a.n [] e w' := by
  obtain ⟨rfl, l', h1, h2⟩ := h
  exact ⟨none, 0, [], l', rfl, .nil, h1, h2⟩

theorem xrun_SET {w0 w : World} {l r : Hp} {sb : Nat} {S : St} {c k m : ByteArray} {ws : List ByteArray} (hS : Step w0 [] w (l ++ r)) (hG : Glob w0) (hX : IsStore l sb S) (hT : Tight S ∧ S.load ≤ 1000000000000) (hs : ∀ s ∈ (c :: k :: m :: ws), s.size ≤ 1099511627776) (hc : wcheck (c :: k :: m :: ws) = (spSET, ByteArray.empty)) (now : Int) (hnow : 0 ≤ now ∧ now ≤ 4611686018427387904) (hf : (c :: k :: m :: ws).length ≤ 1099511627776) :
    Calls Tryz.prog 10 #[ptr sb, .int .i64 now, .slice (some ⟨w.heap.size, 0, none⟩) (c :: k :: m :: ws).length (c :: k :: m :: ws).length] (w.alloc (WsObj (c :: k :: m :: ws))) (RunEnd w0 r sb (tSet S now k m ws).1 (tSet S now k m ws).2.kind (tSet S now k m ws).2.text (tSet S now k m ws).2.n []) := by
  have h := Ctx.call hS hG hX hT.1 hT.2 (c :: k :: m :: ws) hs hf
  exact (run_text h spSET hc (by kernel_rfl) now _ (fun w' x hS' => (do_SET (h.at (x := x) rfl hS') hc now _ (Nat.le_refl _) hf hnow).mono fun _ _ hp => hp.end_)).mono fun _ _ hp => hp.letGo
def spEXPIRE : Sp := ⟨⟨#[69, 88, 80, 73, 82, 69]⟩, 2, 3, 3, 1, 1, 1⟩
def spPEXPIRE : Sp := ⟨⟨#[80, 69, 88, 80, 73, 82, 69]⟩, 2, 3, 3, 1, 1, 1⟩
def spPTTL : Sp := ⟨⟨#[80, 84, 84, 76]⟩, 1, 2, 2, 1, 1, 1⟩
def spTTL : Sp := ⟨⟨#[84, 84, 76]⟩, 1, 2, 2, 1, 1, 1⟩
def spPERSIST : Sp := ⟨⟨#[80, 69, 82, 83, 73, 83, 84]⟩, 2, 2, 2, 1, 1, 1⟩
def spFLUSHALL : Sp := ⟨⟨#[70, 76, 85, 83, 72, 65, 76, 76]⟩, 2, 1, 1, 0, 0, 0⟩

theorem xrun_EXPIRE {w0 w : World} {l r : Hp} {sb : Nat} {S : St} {c k m : ByteArray} (hS : Step w0 [] w (l ++ r)) (hG : Glob w0) (hX : IsStore l sb S) (hT : Tight S ∧ S.load ≤ 1000000000000) (hs : ∀ s ∈ [c, k, m], s.size ≤ 1099511627776) (hc : wcheck [c, k, m] = (spEXPIRE, ByteArray.empty)) (now : Int) (hnow : 0 ≤ now ∧ now ≤ 4611686018427387904) :
    Calls Tryz.prog 10 #[ptr sb, .int .i64 now, .slice (some ⟨w.heap.size, 0, none⟩) [c, k, m].length [c, k, m].length] (w.alloc (WsObj [c, k, m])) (RunEnd w0 r sb (eExpire S now k m 1000).1 (eExpire S now k m 1000).2.kind (eExpire S now k m 1000).2.text (eExpire S now k m 1000).2.n []) := by
  have h := Ctx.call hS hG hX hT.1 hT.2 [c, k, m] hs (by simp)
  exact (run_own h spEXPIRE hc (by kernel_rfl) now _
    (fun w' x hS' => tno_any (h.at (x := x) rfl hS') spEXPIRE hc (by kernel_rfl) now _ (Nat.le_refl _) (by simp))
    (fun w' x hS' => fno_any (h.at (x := x) rfl hS') spEXPIRE hc (by kernel_rfl) now _) (Nat.le_refl _) (by simp)
    (fun w' x hS' => (own_EXPIRE (h.at (x := x) rfl hS').tail now hnow _).mono fun _ _ hp => FEnd.leaf hp)).mono fun _ _ hp => hp.letGo

theorem xrun_PEXPIRE {w0 w : World} {l r : Hp} {sb : Nat} {S : St} {c k m : ByteArray} (hS : Step w0 [] w (l ++ r)) (hG : Glob w0) (hX : IsStore l sb S) (hT : Tight S ∧ S.load ≤ 1000000000000) (hs : ∀ s ∈ [c, k, m], s.size ≤ 1099511627776) (hc : wcheck [c, k, m] = (spPEXPIRE, ByteArray.empty)) (now : Int) (hnow : 0 ≤ now ∧ now ≤ 4611686018427387904) :
    Calls Tryz.prog 10 #[ptr sb, .int .i64 now, .slice (some ⟨w.heap.size, 0, none⟩) [c, k, m].length [c, k, m].length] (w.alloc (WsObj [c, k, m])) (RunEnd w0 r sb (eExpire S now k m 1).1 (eExpire S now k m 1).2.kind (eExpire S now k m 1).2.text (eExpire S now k m 1).2.n []) := by
  have h := Ctx.call hS hG hX hT.1 hT.2 [c, k, m] hs (by simp)
  exact (run_own h spPEXPIRE hc (by kernel_rfl) now _
    (fun w' x hS' => tno_any (h.at (x := x) rfl hS') spPEXPIRE hc (by kernel_rfl) now _ (Nat.le_refl _) (by simp))
    (fun w' x hS' => fno_any (h.at (x := x) rfl hS') spPEXPIRE hc (by kernel_rfl) now _) (Nat.le_refl _) (by simp)
    (fun w' x hS' => (own_PEXPIRE (h.at (x := x) rfl hS').tail now hnow _).mono fun _ _ hp => FEnd.leaf hp)).mono fun _ _ hp => hp.letGo

theorem xrun_PTTL {w0 w : World} {l r : Hp} {sb : Nat} {S : St} {c k : ByteArray} (hS : Step w0 [] w (l ++ r)) (hG : Glob w0) (hX : IsStore l sb S) (hT : Tight S ∧ S.load ≤ 1000000000000) (hs : ∀ s ∈ [c, k], s.size ≤ 1099511627776) (hc : wcheck [c, k] = (spPTTL, ByteArray.empty)) (now : Int) (hnow : 0 ≤ now ∧ now ≤ 4611686018427387904) (hr : ∀ t, mlook (S.due k now).D k = some t → -9223372036854775808 ≤ t - now ∧ t - now ≤ 9223372036854775807) :
    Calls Tryz.prog 10 #[ptr sb, .int .i64 now, .slice (some ⟨w.heap.size, 0, none⟩) [c, k].length [c, k].length] (w.alloc (WsObj [c, k])) (RunEnd w0 r sb (ePttl S now k).1 (ePttl S now k).2.kind (ePttl S now k).2.text (ePttl S now k).2.n []) := by
  have h := Ctx.call hS hG hX hT.1 hT.2 [c, k] hs (by simp)
  exact (run_own h spPTTL hc (by kernel_rfl) now _
    (fun w' x hS' => tno_any (h.at (x := x) rfl hS') spPTTL hc (by kernel_rfl) now _ (Nat.le_refl _) (by simp))
    (fun w' x hS' => fno_any (h.at (x := x) rfl hS') spPTTL hc (by kernel_rfl) now _) (Nat.le_refl _) (by simp)
    (fun w' x hS' => (own_PTTL (h.at (x := x) rfl hS').tail now hnow _ hr).mono fun _ _ hp => FEnd.leaf hp)).mono fun _ _ hp => hp.letGo

theorem xrun_TTL {w0 w : World} {l r : Hp} {sb : Nat} {S : St} {c k : ByteArray} (hS : Step w0 [] w (l ++ r)) (hG : Glob w0) (hX : IsStore l sb S) (hT : Tight S ∧ S.load ≤ 1000000000000) (hs : ∀ s ∈ [c, k], s.size ≤ 1099511627776) (hc : wcheck [c, k] = (spTTL, ByteArray.empty)) (now : Int) (hnow : 0 ≤ now ∧ now ≤ 4611686018427387904) (hr : ∀ t, mlook (S.due k now).D k = some t → -9223372036854775808 ≤ t - now ∧ t - now ≤ 9223372036854775807) :
    Calls Tryz.prog 10 #[ptr sb, .int .i64 now, .slice (some ⟨w.heap.size, 0, none⟩) [c, k].length [c, k].length] (w.alloc (WsObj [c, k])) (RunEnd w0 r sb (eTtl S now k).1 (eTtl S now k).2.kind (eTtl S now k).2.text (eTtl S now k).2.n []) := by
  have h := Ctx.call hS hG hX hT.1 hT.2 [c, k] hs (by simp)
  exact (run_own h spTTL hc (by kernel_rfl) now _
    (fun w' x hS' => tno_any (h.at (x := x) rfl hS') spTTL hc (by kernel_rfl) now _ (Nat.le_refl _) (by simp))
    (fun w' x hS' => fno_any (h.at (x := x) rfl hS') spTTL hc (by kernel_rfl) now _) (Nat.le_refl _) (by simp)
    (fun w' x hS' => (own_TTL (h.at (x := x) rfl hS').tail now hnow _ hr).mono fun _ _ hp => FEnd.leaf hp)).mono fun _ _ hp => hp.letGo

theorem xrun_PERSIST {w0 w : World} {l r : Hp} {sb : Nat} {S : St} {c k : ByteArray} (hS : Step w0 [] w (l ++ r)) (hG : Glob w0) (hX : IsStore l sb S) (hT : Tight S ∧ S.load ≤ 1000000000000) (hs : ∀ s ∈ [c, k], s.size ≤ 1099511627776) (hc : wcheck [c, k] = (spPERSIST, ByteArray.empty)) (now : Int) (hnow : 0 ≤ now ∧ now ≤ 4611686018427387904) :
    Calls Tryz.prog 10 #[ptr sb, .int .i64 now, .slice (some ⟨w.heap.size, 0, none⟩) [c, k].length [c, k].length] (w.alloc (WsObj [c, k])) (RunEnd w0 r sb (ePersist S now k).1 (ePersist S now k).2.kind (ePersist S now k).2.text (ePersist S now k).2.n []) := by
  have h := Ctx.call hS hG hX hT.1 hT.2 [c, k] hs (by simp)
  exact (run_own h spPERSIST hc (by kernel_rfl) now _
    (fun w' x hS' => tno_any (h.at (x := x) rfl hS') spPERSIST hc (by kernel_rfl) now _ (Nat.le_refl _) (by simp))
    (fun w' x hS' => fno_any (h.at (x := x) rfl hS') spPERSIST hc (by kernel_rfl) now _) (Nat.le_refl _) (by simp)
    (fun w' x hS' => (own_PERSIST (h.at (x := x) rfl hS').tail now hnow _).mono fun _ _ hp => FEnd.leaf hp)).mono fun _ _ hp => hp.letGo

theorem xrun_FLUSHALL {w0 w : World} {l r : Hp} {sb : Nat} {S : St} {c : ByteArray} (hS : Step w0 [] w (l ++ r)) (hG : Glob w0) (hX : IsStore l sb S) (hT : Tight S ∧ S.load ≤ 1000000000000) (hs : ∀ s ∈ [c], s.size ≤ 1099511627776) (hc : wcheck [c] = (spFLUSHALL, ByteArray.empty)) (now : Int) (hnow : 0 ≤ now ∧ now ≤ 4611686018427387904) :
    Calls Tryz.prog 10 #[ptr sb, .int .i64 now, .slice (some ⟨w.heap.size, 0, none⟩) 1 1] (w.alloc (WsObj [c])) (RunEnd w0 r sb S.flush 1 ⟨#[79, 75]⟩ 0 []) := by
  have h := Ctx.call hS hG hX hT.1 hT.2 [c] hs (by simp)
  exact (run_own1 h spFLUSHALL hc (by kernel_rfl) now 1
    (fun w' x hS' => tno_any (h.at (x := x) rfl hS') spFLUSHALL hc (by kernel_rfl) now 1 (Nat.le_refl _) (by simp))
    (fun w' x hS' => fno_any (h.at (x := x) rfl hS') spFLUSHALL hc (by kernel_rfl) now 1) (Nat.le_refl _) (by simp)
    (fun w' x hS' => (own_FLUSHALL (ws := []) ⟨hS', hG, hX, hT.1, hT.2, ⟨fun _ _ _ _ _ hi => by simp at hi, by simp, by simp⟩⟩ now hnow 0).mono fun _ _ hp => FEnd.leaf hp)).mono fun _ _ hp => hp.letGo

theorem xrun_wrong {w0 w : World} {l r : Hp} {sb : Nat} {S : St} {c : ByteArray} {ws : List ByteArray} (hS : Step w0 [] w (l ++ r)) (hG : Glob w0) (hX : IsStore l sb S) (hT : Tight S ∧ S.load ≤ 1000000000000) (hs : ∀ s ∈ (c :: ws), s.size ≤ 1099511627776) (hf : (c :: ws).length ≤ 1099511627776) (sp : Sp) {wrong : ByteArray} (hc : wcheck (c :: ws) = (sp, wrong)) (hw : ¬ wrong = ByteArray.empty) (now : Int) :
    Calls Tryz.prog 10 #[ptr sb, .int .i64 now, .slice (some ⟨w.heap.size, 0, none⟩) (c :: ws).length (c :: ws).length] (w.alloc (WsObj (c :: ws))) (RunEnd w0 r sb S 2 wrong 0 []) :=
  (run_wrong (Ctx.call hS hG hX hT.1 hT.2 (c :: ws) hs hf) sp hc hw now _).mono fun _ _ hp => hp.letGo
theorem xrun_other {w0 w : World} {l r : Hp} {sb : Nat} {S : St} {c : ByteArray} {ws : List ByteArray} (hS : Step w0 [] w (l ++ r)) (hG : Glob w0) (hX : IsStore l sb S) (hT : Tight S ∧ S.load ≤ 1000000000000) (hs : ∀ s ∈ (c :: ws), s.size ≤ 1099511627776) (hf : (c :: ws).length ≤ 1099511627776) (sp : Sp) (hc : wcheck (c :: ws) = (sp, ByteArray.empty)) (hk : isKeys (sp, ByteArray.empty) = false) (now : Int) :
    Calls Tryz.prog 10 #[ptr sb, .int .i64 now, .slice (some ⟨w.heap.size, 0, none⟩) (c :: ws).length (c :: ws).length] (w.alloc (WsObj (c :: ws))) (RunEnd w0 r sb S 2 ⟨#[69, 82, 82, 32, 117, 110, 107, 110, 111, 119, 110, 32, 99, 111, 109, 109, 97, 110, 100]⟩ 0 []) :=
  (run_other (Ctx.call hS hG hX hT.1 hT.2 (c :: ws) hs hf) sp hc hk now _).mono fun _ _ hp => hp.letGo

/-- exec.Is of words in a new block. -/
theorem is_words {w0 w : World} {r : Hp} {c : ByteArray} {ws : List ByteArray} (hS : Step w0 [] w r) (hs : ∀ s ∈ (c :: ws), s.size ≤ 1099511627776) (hf : (c :: ws).length ≤ 1099511627776) :
    Calls Tryz.prog 11 #[.slice (some ⟨w.heap.size, 0, none⟩) (c :: ws).length (c :: ws).length] (w.alloc (WsObj (c :: ws))) (fun e w' => e = .returned (.bool (isKeys (wcheck (c :: ws)))) ∧ Step w0 [] w' r) :=
  (is_some (hS.alloc (WsObj (c :: ws))) (.own (t := 9) (by simp) hs hf) _).mono fun _ _ h => ⟨h.1, h.2.less (List.sublist_cons_self _ _)⟩
set_option maxRecDepth 100000 in
theorem is_nil {w0 w : World} {r : Hp} (hS : Step w0 [] w r) (a : Option Addr) (c : Nat) :
    Calls Tryz.prog 11 #[.slice a 0 c] w (fun e w' => e = .returned (.bool false) ∧ Step w0 [] w' r) := by
  have hchk := check_nil hS a c
  unfold CheckPost at hchk
  have e : wcheck [] = (zeroSp, noCommand) := rfl
  rw [e] at hchk
  unfold Sp.val specVal zeroSp noCommand at hchk
  simp only at hchk
  replace hchk := hid hchk
  clear hS e
  go_enter Tryz.func11, Tryz.ntmps11
  go_wp2_with fail
  refine hchk.out.mono ?_
  rintro e w1 ⟨rfl, S1⟩
  clear hchk
  have S2 := hid (S1.alloc (.cells #[.string ByteArray.empty, .int .i64 0, .int .i64 0, .int .i64 0, .int .i64 0, .int .i64 0, .int .i64 0] 48))
  clear S1
  go_wp2_with fail
  go_ret
  exact ⟨rfl, S2.out.less (List.sublist_cons_self _ _)⟩

end Go.Proofs.YthfngplckbggpaaGreatDoor

namespace Go.Proofs.YthfngplckbggpaaGreatDoor
open Go Go.RowKit

theorem evOne {T : TypeId} {v : Value} {el : Hp} {u : List Value} {a b : Value} (h : SliceHp 2 T v 1 u el) (hu : u = [a, b]) : ∃ g cap rest, v = .slice (some ⟨g, 0, none⟩) 1 cap ∧ el = [(g, .cells ([a, b] ++ rest).toArray T (0, 0))] := by
  subst hu
  cases h with
  | laid g n cap xs rest hx hr hn hc => exact ⟨g, cap, rest, rfl, rfl⟩
theorem ealive_c1 : wcheck [⟨#[83, 69, 84]⟩, kk, kv] = (spSET, ByteArray.empty) := by kernel_rfl
theorem ealive_c2 : wcheck [⟨#[69, 88, 80, 73, 82, 69]⟩, kk, ⟨#[45, 49]⟩] = (spEXPIRE, ByteArray.empty) := by kernel_rfl
theorem ealive_2 : eExpire (eYes [] []) 0 kk ⟨#[45, 49]⟩ 1000 = (eNo [(2, kk)], lfYes true) := by kernel_rfl
/-- What was told is let go. -/
theorem Step.told {w0 w : World} {l x e r : Hp} (h : Step w0 [] w (l ++ (x ++ (e ++ r)))) : Step w0 [] w (l ++ r) := h.pick (m := x ++ e) (perm_by fun f => by simp only [List.map_append, List.sum_append, List.map_cons, List.sum_cons, List.map_nil, List.sum_nil]; omega)

set_option maxRecDepth 100000 in
set_option maxHeartbeats 4000000 in
theorem ealive_any {w0 w : World} {r : Hp} (hS : Step w0 [] w r) (hG : Glob w0) :
    Calls Tryz.prog 8 #[] w (fun e w' => e = .returned (.bool true) ∧ Step w0 [] w' r) := by
  have hnew := hid (snew_any hS 10000)
  replace hG := hid hG
  clear hS
  go_enter Tryz.func8, Tryz.ntmps8
  go_wp2_with fail
  refine hnew.out.mono ?_
  rintro e w1 ⟨sb, l1, rfl, hX1, S1⟩
  clear hnew
  have hdo : Calls Tryz.prog 10 #[ptr sb, .int .i64 0, .slice (some ⟨w1.heap.size, 0, none⟩) 3 3] (w1.alloc (WsObj [⟨#[83, 69, 84]⟩, kk, kv])) (RunEnd w0 (r) sb (eYes [] [(1, kk)]) 1 ⟨#[79, 75]⟩ 0 []) := by
    have q := xrun_SET S1 hG.out hX1 ⟨newSt_tight _, by decide⟩ (by decide) ealive_c1 0 (by decide) (by decide)
    rw [e_set'] at q
    exact q
  replace hdo := hid hdo
  clear S1 hX1
  go_wp2_with fail
  refine hdo.out.mono ?_
  rintro e w2 ⟨a2, c2, ev2, xl2, el2, l2, rfl, hxl2, hev2, hX2, S2⟩
  clear hdo hxl2
  replace S2 := S2.told
  replace hX2 : IsStore l2 sb (eYes [] []) := hX2
  clear hev2
  have hdo : Calls Tryz.prog 10 #[ptr sb, .int .i64 0, .slice (some ⟨w2.heap.size, 0, none⟩) 3 3] (w2.alloc (WsObj [⟨#[69, 88, 80, 73, 82, 69]⟩, kk, ⟨#[45, 49]⟩])) (RunEnd w0 (r) sb (eNo [(2, kk)]) 3 ByteArray.empty 1 []) := by
    have q := xrun_EXPIRE S2 hG.out hX2 (eYes_ok _ _ (by decide)) (by decide) ealive_c2 0 (by decide)
    rw [ealive_2] at q
    exact q
  replace hdo := hid hdo
  clear S2 hX2
  go_wp2_with fail
  refine hdo.out.mono ?_
  rintro e w3 ⟨a3, c3, ev3, xl3, el3, l3, rfl, hxl3, hev3, hX3, S3⟩
  clear hdo hxl3
  obtain ⟨g, cap, rest, rfl, rfl⟩ := evOne hev3 (a := .int .i64 2) (b := .string kk) rfl
  replace hX3 : IsStore l3 sb (eNo []) := hX3
  clear hev3
  unfold ansVal
  go_upto_region 6 with fail
  have S4 := S3.alloc (ValObj 3 ByteArray.empty 1 (.slice a3 0 c3))
  generalize hw4 : w3.alloc _ = w4
  replace S4 : Step w0 [] w4 _ := hw4 ▸ S4
  clear hw4 S3
  generalize w3.heap.size = vb at S4 ⊢
  have v0 : w4.cell? ⟨vb, 0, none⟩ = some (.int .i64 3) := cells_get S4.own.head 0
  have v2 : w4.cell? ⟨vb, 2, none⟩ = some (.int .i64 1) := cells_get S4.own.head 2
  have hgm := S4.own.at_ (g, .cells ([Value.int .i64 2, Value.string kk] ++ rest).toArray 33 (0, 0)) (by simp)
  have g0 : w4.cell? ⟨g, 0, none⟩ = some (.int .i64 2) := by rw [cells_get hgm]; rfl
  have g1 : w4.cell? ⟨g, 1, none⟩ = some (.string kk) := by rw [cells_get hgm]; rfl
  obtain ⟨m, rfl, hok, hf⟩ := hX3
  have S5 := S4.permR (l2 := m.hp sb (bytesOf (eNo []).L) (eNo []).bud ++ ((vb, ValObj 3 ByteArray.empty 1 (.slice a3 0 c3)) :: (xl3 ++ ((g, .cells ([Value.int .i64 2, Value.string kk] ++ rest).toArray 33 (0, 0)) :: r)))) (perm_by fun f => by simp only [List.map_append, List.sum_append, List.map_cons, List.sum_cons, List.map_nil, List.sum_nil]; omega)
  have s0 := (stCells S5.own).c0
  have htl := tlen_any m.tl m.tb m.M 0 w4 hok.tab (SM.ownT S5.own)
  have hM : m.M.length = 0 := by
    have h1 := hok.num.length_eq
    have h2 : m.cs = [] := List.map_eq_nil_iff.1 hok.cells.symm
    rw [h2] at h1; exact h1
  rw [hM] at htl
  have S9 := hid (S4.pick (l2 := r) (m := (vb, ValObj 3 ByteArray.empty 1 (.slice a3 0 c3)) :: (m.hp sb (bytesOf (eNo []).L) (eNo []).bud ++ (xl3 ++ [(g, .cells ([Value.int .i64 2, Value.string kk] ++ rest).toArray 33 (0, 0))]))) (perm_by fun f => by simp only [List.map_append, List.sum_append, List.map_cons, List.sum_cons, List.map_nil, List.sum_nil]; omega))
  replace htl := hid htl
  clear S4 S5 hok hf hM hgm
  go_wp2_with fail
  refine htl.out.mono ?_
  rintro e w5 ⟨rfl, nd, rfl⟩
  clear htl
  go_wp2_with fail
  go_ret
  exact ⟨rfl, S9.out.drewN _⟩

end Go.Proofs.YthfngplckbggpaaGreatDoor
