/-
  texts.Do, a command at a time (printed by gen_do.py).
  texts.Do, a command at a time (printed by gen_do.py).
  texts.Do, a command at a time (printed by gen_do.py).
  texts.Do, a command at a time (printed by gen_do.py).
-/
import Derived.Test.YthfngplckbggpaaGreatDoorP30
set_option linter.unusedVariables false
set_option linter.unusedSimpArgs false
namespace Go.Proofs.YthfngplckbggpaaGreatDoor
open Go Go.RowKit

def DoPost (w0 : World) (r : Hp) (sb : Nat) (S : St) (a : Lf) (e : Ending) (w' : World) : Prop := e = .returned (.tuple #[lfVal a, .bool true]) ∧ ∃ l', IsStore l' sb S ∧ Step w0 [] w' (l' ++ r)
abbrev SpObj (s : Sp) : Obj := .cells #[.string s.name, .int .i64 s.kind, .int .i64 s.least, .int .i64 s.most, .int .i64 s.first, .int .i64 s.last, .int .i64 s.step] 48 (0, 0)

theorem Ctx.tail {w0 w : World} {l r : Hp} {sb : Nat} {S : St} {g off : Nat} {c : ByteArray} {ws : List ByteArray} (h : Ctx w0 w l r sb S g off (c :: ws)) : Ctx w0 w l r sb S g (off + 1) ws :=
  ⟨h.st, h.gl, h.is, h.tight, h.load, h.args.drop 1⟩
def spGET : Sp := ⟨⟨#[71, 69, 84]⟩, 1, 2, 2, 1, 1, 1⟩
def spSET : Sp := ⟨⟨#[83, 69, 84]⟩, 2, 3, 64, 1, 1, 1⟩
def spSETNX : Sp := ⟨⟨#[83, 69, 84, 78, 88]⟩, 2, 3, 3, 1, 1, 1⟩
def spGETSET : Sp := ⟨⟨#[71, 69, 84, 83, 69, 84]⟩, 2, 3, 3, 1, 1, 1⟩
def spGETDEL : Sp := ⟨⟨#[71, 69, 84, 68, 69, 76]⟩, 2, 2, 2, 1, 1, 1⟩
def spMGET : Sp := ⟨⟨#[77, 71, 69, 84]⟩, 1, 2, 64, 1, (-1), 1⟩
def spMSET : Sp := ⟨⟨#[77, 83, 69, 84]⟩, 2, 3, 64, 1, (-1), 2⟩
def spINCR : Sp := ⟨⟨#[73, 78, 67, 82]⟩, 2, 2, 2, 1, 1, 1⟩
def spDECR : Sp := ⟨⟨#[68, 69, 67, 82]⟩, 2, 2, 2, 1, 1, 1⟩
def spINCRBY : Sp := ⟨⟨#[73, 78, 67, 82, 66, 89]⟩, 2, 3, 3, 1, 1, 1⟩
def spDECRBY : Sp := ⟨⟨#[68, 69, 67, 82, 66, 89]⟩, 2, 3, 3, 1, 1, 1⟩
def spAPPEND : Sp := ⟨⟨#[65, 80, 80, 69, 78, 68]⟩, 2, 3, 3, 1, 1, 1⟩
def spSTRLEN : Sp := ⟨⟨#[83, 84, 82, 76, 69, 78]⟩, 1, 2, 2, 1, 1, 1⟩

end Go.Proofs.YthfngplckbggpaaGreatDoor

namespace Go.Proofs.YthfngplckbggpaaGreatDoor
open Go Go.RowKit

set_option maxRecDepth 100000 in
set_option maxHeartbeats 2000000 in
theorem do_SET {w0 w : World} {l r : Hp} {sb : Nat} {S : St} {g off : Nat} {c : ByteArray} {k m : ByteArray} {ws : List ByteArray} (h : Ctx w0 w l r sb S g off (c :: k :: m :: ws)) (hc : wcheck (c :: k :: m :: ws) = (spSET, ByteArray.empty)) (now : Int) (cap : Nat) (hcap : (c :: k :: m :: ws).length ≤ cap) (hcap2 : cap ≤ 1099511627776) (hnow : 0 ≤ now ∧ now ≤ 4611686018427387904) :
    Calls Tryz.prog 28 #[ptr sb, .int .i64 now, .slice (some ⟨g, off, none⟩) (c :: k :: m :: ws).length cap] w (DoPost w0 r sb (tSet S now k m ws).1 (tSet S now k m ws).2) := by
  have H := h.alloc ZeroVal
  have hchk := check_some H.st (H.args.more (x := l)) cap
  rw [hc] at hchk
  clear hc
  unfold CheckPost Sp.val specVal spSET at hchk
  simp only at hchk
  generalize hT : tSet S now k m ws = T
  replace hT := hid hT
  have hx : ∀ (w' : World) (x : Hp), Step w0 [] w' (l ++ (x ++ r)) → Ctx w0 w' l (x ++ r) sb S g (off + 1) (k :: m :: ws) := fun w' x hS => (h.at (x := x) rfl hS).tail
  have hn : 1 < (c :: k :: m :: ws).length := by simp only [List.length_cons]; omega
  obtain ⟨n, hlen⟩ : ∃ n, (c :: k :: m :: ws).length = n := ⟨_, rfl⟩
  have hlen1 : (k :: m :: ws).length = n - 1 := by rw [← hlen]; simp only [List.length_cons]; omega
  have hcap' : n ≤ cap := by rw [← hlen]; exact hcap
  rw [hlen] at hchk hn ⊢
  have hc1 : ¬ cap - 1 = 0 := by omega
  have hn3 : (1 : Int) < (n : Int) := by omega
  have hn4 : 0 < n := by omega
  replace hlen := hid hlen
  replace hlen1 := hid hlen1
  replace hchk := hid hchk
  replace hx := hid hx
  replace hcap := hid hcap
  clear h H
  go_enter Tryz.func28, Tryz.ntmps28
  go_wp2_with fail
  refine hchk.out.mono ?_
  rintro e w2 ⟨rfl, S2⟩
  clear hchk
  go_upto_region 2 with fail
  have S3 := S2.alloc (.cells #[.string ⟨#[83, 69, 84]⟩, .int .i64 2, .int .i64 3, .int .i64 64, .int .i64 1, .int .i64 1, .int .i64 1] 48)
  generalize hw3 : w2.alloc _ = w3
  replace S3 : Step w0 [] w3 _ := hw3 ▸ S3
  clear hw3 S2
  generalize w2.heap.size = b1 at S3 ⊢
  generalize w.heap.size = b at S3 ⊢
  have nm := cells_get S3.own.head 0
  simp only [List.getElem?_toArray, List.getElem?_cons_zero] at nm
  go_upto_region 5 with fail
  have S4 := S3.alloc (JobObj sb now g (off + 1) (n - 1) (cap - 1))
  generalize hw4 : w3.alloc _ = w4
  replace S4 : Step w0 [] w4 _ := hw4 ▸ S4
  clear hw4 S3 nm
  generalize w3.heap.size = b2 at S4 ⊢
  have nm := cells_get S4.own.tail.head 0
  simp only [List.getElem?_toArray, List.getElem?_cons_zero] at nm
  obtain ⟨j0, j1, j2⟩ := jobAt S4.own.head
  obtain ⟨X, hX⟩ : ∃ X : Hp, X = [(b2, JobObj sb now g (off + 1) (n - 1) (cap - 1)), (b1, .cells #[.string ⟨#[83, 69, 84]⟩, .int .i64 2, .int .i64 3, .int .i64 64, .int .i64 1, .int .i64 1, .int .i64 1] 48 (0, 0)), (b, ZeroVal)] := ⟨_, rfl⟩
  have S5 : Step w0 [] w4 (l ++ (X ++ r)) := S4.permR (perm_by fun f => by
    rw [hX]; simp only [List.map_append, List.sum_append, List.map_cons, List.sum_cons, List.map_nil, List.sum_nil]; omega)
  have hend : Hid (∀ (w' : World) (l3 : Hp), Step w0 [] w' (l3 ++ (X ++ r)) → Step w0 [] w' ((b, ZeroVal) :: (l3 ++ r ++ [(b2, JobObj sb now g (off + 1) (n - 1) (cap - 1)), (b1, .cells #[.string ⟨#[83, 69, 84]⟩, .int .i64 2, .int .i64 3, .int .i64 64, .int .i64 1, .int .i64 1, .int .i64 1] 48 (0, 0))]))) := hid fun w' l3 h => h.permR (perm_by fun f => by
    rw [hX]; simp only [List.map_append, List.sum_append, List.map_cons, List.sum_cons, List.map_nil, List.sum_nil]; omega)
  clear S4
  replace hX := hid hX
  have hj := set_job (hx.out w4 X S5) now hnow (cap - 1) (by have := hcap.out; simp only [List.length_cons] at this ⊢; omega) (by omega)
  rw [hlen1.out, hT.out] at hj
  unfold jobVal lfVal ansVal at hj
  replace hj := hid hj
  clear S5 hx hT
  go_wp2_with fail
  refine hj.out.mono ?_
  rintro e w5 ⟨rfl, l5, hX5, S6⟩
  have S7 := hend.out w5 l5 S6
  obtain ⟨⟨c0, hc0⟩, ⟨c1, hc1⟩, ⟨c2, hc2⟩, ⟨c3, hc3⟩, ⟨c4, hc4⟩, ⟨c5, hc5⟩, fz, hlt⟩ := cells6' S7.own.head
  have S9 := hid ((S7.setLf T.2).less (List.sublist_append_left _ _))
  clear hj S6 S7 hend
  go_wp2_with fail
  refine bodyPost_ret (v := .tuple #[lfVal T.2, .bool true]) (by simp [results, Tryz.results28, go_sem, lfVal, ansVal, *] <;> rfl) rfl ?_
  exact ⟨rfl, l5, hX5, S9.out⟩

set_option maxRecDepth 100000 in
set_option maxHeartbeats 2000000 in
theorem do_DECR {w0 w : World} {l r : Hp} {sb : Nat} {S : St} {g off : Nat} {c : ByteArray} {k : ByteArray} {ws : List ByteArray} (h : Ctx w0 w l r sb S g off (c :: k :: ws)) (hc : wcheck (c :: k :: ws) = (spDECR, ByteArray.empty)) (now : Int) (cap : Nat) (hcap : (c :: k :: ws).length ≤ cap) (hcap2 : cap ≤ 1099511627776)  :
    Calls Tryz.prog 28 #[ptr sb, .int .i64 now, .slice (some ⟨g, off, none⟩) (c :: k :: ws).length cap] w (DoPost w0 r sb (tAdd S now k (-1)).1 (tAdd S now k (-1)).2) := by
  have H := h.alloc ZeroVal
  have hchk := check_some H.st (H.args.more (x := l)) cap
  rw [hc] at hchk
  clear hc
  unfold CheckPost Sp.val specVal spDECR at hchk
  simp only at hchk
  generalize hT : tAdd S now k (-1) = T
  replace hT := hid hT
  have hx : ∀ (w' : World) (x : Hp), Step w0 [] w' (l ++ (x ++ r)) → Ctx w0 w' l (x ++ r) sb S g (off + 1) (k :: ws) := fun w' x hS => (h.at (x := x) rfl hS).tail
  have hn : 1 < (c :: k :: ws).length := by simp only [List.length_cons]; omega
  obtain ⟨n, hlen⟩ : ∃ n, (c :: k :: ws).length = n := ⟨_, rfl⟩
  have hlen1 : (k :: ws).length = n - 1 := by rw [← hlen]; simp only [List.length_cons]; omega
  have hcap' : n ≤ cap := by rw [← hlen]; exact hcap
  rw [hlen] at hchk hn ⊢
  have hc1 : ¬ cap - 1 = 0 := by omega
  have hn3 : (1 : Int) < (n : Int) := by omega
  have hn4 : 0 < n := by omega
  replace hlen := hid hlen
  replace hlen1 := hid hlen1
  replace hchk := hid hchk
  replace hx := hid hx
  replace hcap := hid hcap
  clear h H
  go_enter Tryz.func28, Tryz.ntmps28
  go_wp2_with fail
  refine hchk.out.mono ?_
  rintro e w2 ⟨rfl, S2⟩
  clear hchk
  go_upto_region 2 with fail
  have S3 := S2.alloc (.cells #[.string ⟨#[68, 69, 67, 82]⟩, .int .i64 2, .int .i64 2, .int .i64 2, .int .i64 1, .int .i64 1, .int .i64 1] 48)
  generalize hw3 : w2.alloc _ = w3
  replace S3 : Step w0 [] w3 _ := hw3 ▸ S3
  clear hw3 S2
  generalize w2.heap.size = b1 at S3 ⊢
  generalize w.heap.size = b at S3 ⊢
  have nm := cells_get S3.own.head 0
  simp only [List.getElem?_toArray, List.getElem?_cons_zero] at nm
  go_upto_region 5 with fail
  have S4 := S3.alloc (JobObj sb now g (off + 1) (n - 1) (cap - 1))
  generalize hw4 : w3.alloc _ = w4
  replace S4 : Step w0 [] w4 _ := hw4 ▸ S4
  clear hw4 S3 nm
  generalize w3.heap.size = b2 at S4 ⊢
  have nm := cells_get S4.own.tail.head 0
  simp only [List.getElem?_toArray, List.getElem?_cons_zero] at nm
  obtain ⟨j0, j1, j2⟩ := jobAt S4.own.head
  obtain ⟨X, hX⟩ : ∃ X : Hp, X = [(b2, JobObj sb now g (off + 1) (n - 1) (cap - 1)), (b1, .cells #[.string ⟨#[68, 69, 67, 82]⟩, .int .i64 2, .int .i64 2, .int .i64 2, .int .i64 1, .int .i64 1, .int .i64 1] 48 (0, 0)), (b, ZeroVal)] := ⟨_, rfl⟩
  have S5 : Step w0 [] w4 (l ++ (X ++ r)) := S4.permR (perm_by fun f => by
    rw [hX]; simp only [List.map_append, List.sum_append, List.map_cons, List.sum_cons, List.map_nil, List.sum_nil]; omega)
  have hend : Hid (∀ (w' : World) (l3 : Hp), Step w0 [] w' (l3 ++ (X ++ r)) → Step w0 [] w' ((b, ZeroVal) :: (l3 ++ r ++ [(b2, JobObj sb now g (off + 1) (n - 1) (cap - 1)), (b1, .cells #[.string ⟨#[68, 69, 67, 82]⟩, .int .i64 2, .int .i64 2, .int .i64 2, .int .i64 1, .int .i64 1, .int .i64 1] 48 (0, 0))]))) := hid fun w' l3 h => h.permR (perm_by fun f => by
    rw [hX]; simp only [List.map_append, List.sum_append, List.map_cons, List.sum_cons, List.map_nil, List.sum_nil]; omega)
  clear S4
  replace hX := hid hX
  have hj := add_job (hx.out w4 X S5) now (cap - 1) (-1) (by omega)
  rw [hlen1.out, hT.out] at hj
  unfold jobVal lfVal ansVal at hj
  replace hj := hid hj
  clear S5 hx hT
  go_wp2_with fail
  refine hj.out.mono ?_
  rintro e w5 ⟨rfl, l5, hX5, S6⟩
  have S7 := hend.out w5 l5 S6
  obtain ⟨⟨c0, hc0⟩, ⟨c1, hc1⟩, ⟨c2, hc2⟩, ⟨c3, hc3⟩, ⟨c4, hc4⟩, ⟨c5, hc5⟩, fz, hlt⟩ := cells6' S7.own.head
  have S9 := hid ((S7.setLf T.2).less (List.sublist_append_left _ _))
  clear hj S6 S7 hend
  go_wp2_with fail
  refine bodyPost_ret (v := .tuple #[lfVal T.2, .bool true]) (by simp [results, Tryz.results28, go_sem, lfVal, ansVal, *] <;> rfl) rfl ?_
  exact ⟨rfl, l5, hX5, S9.out⟩

set_option maxRecDepth 100000 in
set_option maxHeartbeats 2000000 in
theorem do_STRLEN {w0 w : World} {l r : Hp} {sb : Nat} {S : St} {g off : Nat} {c : ByteArray} {k : ByteArray} {ws : List ByteArray} (h : Ctx w0 w l r sb S g off (c :: k :: ws)) (hc : wcheck (c :: k :: ws) = (spSTRLEN, ByteArray.empty)) (now : Int) (cap : Nat) (hcap : (c :: k :: ws).length ≤ cap) (hcap2 : cap ≤ 1099511627776)  :
    Calls Tryz.prog 28 #[ptr sb, .int .i64 now, .slice (some ⟨g, off, none⟩) (c :: k :: ws).length cap] w (DoPost w0 r sb (tSize S now k).1 (tSize S now k).2) := by
  have H := h.alloc ZeroVal
  have hchk := check_some H.st (H.args.more (x := l)) cap
  rw [hc] at hchk
  clear hc
  unfold CheckPost Sp.val specVal spSTRLEN at hchk
  simp only at hchk
  generalize hT : tSize S now k = T
  replace hT := hid hT
  have hx : ∀ (w' : World) (x : Hp), Step w0 [] w' (l ++ (x ++ r)) → Ctx w0 w' l (x ++ r) sb S g (off + 1) (k :: ws) := fun w' x hS => (h.at (x := x) rfl hS).tail
  have hn : 1 < (c :: k :: ws).length := by simp only [List.length_cons]; omega
  obtain ⟨n, hlen⟩ : ∃ n, (c :: k :: ws).length = n := ⟨_, rfl⟩
  have hlen1 : (k :: ws).length = n - 1 := by rw [← hlen]; simp only [List.length_cons]; omega
  have hcap' : n ≤ cap := by rw [← hlen]; exact hcap
  rw [hlen] at hchk hn ⊢
  have hc1 : ¬ cap - 1 = 0 := by omega
  have hn3 : (1 : Int) < (n : Int) := by omega
  have hn4 : 0 < n := by omega
  replace hlen := hid hlen
  replace hlen1 := hid hlen1
  replace hchk := hid hchk
  replace hx := hid hx
  replace hcap := hid hcap
  clear h H
  go_enter Tryz.func28, Tryz.ntmps28
  go_wp2_with fail
  refine hchk.out.mono ?_
  rintro e w2 ⟨rfl, S2⟩
  clear hchk
  go_upto_region 2 with fail
  have S3 := S2.alloc (.cells #[.string ⟨#[83, 84, 82, 76, 69, 78]⟩, .int .i64 1, .int .i64 2, .int .i64 2, .int .i64 1, .int .i64 1, .int .i64 1] 48)
  generalize hw3 : w2.alloc _ = w3
  replace S3 : Step w0 [] w3 _ := hw3 ▸ S3
  clear hw3 S2
  generalize w2.heap.size = b1 at S3 ⊢
  generalize w.heap.size = b at S3 ⊢
  have nm := cells_get S3.own.head 0
  simp only [List.getElem?_toArray, List.getElem?_cons_zero] at nm
  go_upto_region 5 with fail
  have S4 := S3.alloc (JobObj sb now g (off + 1) (n - 1) (cap - 1))
  generalize hw4 : w3.alloc _ = w4
  replace S4 : Step w0 [] w4 _ := hw4 ▸ S4
  clear hw4 S3 nm
  generalize w3.heap.size = b2 at S4 ⊢
  have nm := cells_get S4.own.tail.head 0
  simp only [List.getElem?_toArray, List.getElem?_cons_zero] at nm
  obtain ⟨j0, j1, j2⟩ := jobAt S4.own.head
  obtain ⟨X, hX⟩ : ∃ X : Hp, X = [(b2, JobObj sb now g (off + 1) (n - 1) (cap - 1)), (b1, .cells #[.string ⟨#[83, 84, 82, 76, 69, 78]⟩, .int .i64 1, .int .i64 2, .int .i64 2, .int .i64 1, .int .i64 1, .int .i64 1] 48 (0, 0)), (b, ZeroVal)] := ⟨_, rfl⟩
  have S5 : Step w0 [] w4 (l ++ (X ++ r)) := S4.permR (perm_by fun f => by
    rw [hX]; simp only [List.map_append, List.sum_append, List.map_cons, List.sum_cons, List.map_nil, List.sum_nil]; omega)
  have hend : Hid (∀ (w' : World) (l3 : Hp), Step w0 [] w' (l3 ++ (X ++ r)) → Step w0 [] w' ((b, ZeroVal) :: (l3 ++ r ++ [(b2, JobObj sb now g (off + 1) (n - 1) (cap - 1)), (b1, .cells #[.string ⟨#[83, 84, 82, 76, 69, 78]⟩, .int .i64 1, .int .i64 2, .int .i64 2, .int .i64 1, .int .i64 1, .int .i64 1] 48 (0, 0))]))) := hid fun w' l3 h => h.permR (perm_by fun f => by
    rw [hX]; simp only [List.map_append, List.sum_append, List.map_cons, List.sum_cons, List.map_nil, List.sum_nil]; omega)
  clear S4
  replace hX := hid hX
  have hj := size_job (hx.out w4 X S5) now (cap - 1)
  rw [hlen1.out, hT.out] at hj
  unfold jobVal lfVal ansVal at hj
  replace hj := hid hj
  clear S5 hx hT
  go_wp2_with fail
  refine hj.out.mono ?_
  rintro e w5 ⟨rfl, l5, hX5, S6⟩
  have S7 := hend.out w5 l5 S6
  obtain ⟨⟨c0, hc0⟩, ⟨c1, hc1⟩, ⟨c2, hc2⟩, ⟨c3, hc3⟩, ⟨c4, hc4⟩, ⟨c5, hc5⟩, fz, hlt⟩ := cells6' S7.own.head
  have S9 := hid ((S7.setLf T.2).less (List.sublist_append_left _ _))
  clear hj S6 S7 hend
  go_wp2_with fail
  refine bodyPost_ret (v := .tuple #[lfVal T.2, .bool true]) (by simp [results, Tryz.results28, go_sem, lfVal, ansVal, *] <;> rfl) rfl ?_
  exact ⟨rfl, l5, hX5, S9.out⟩

end Go.Proofs.YthfngplckbggpaaGreatDoor

namespace Go.Proofs.YthfngplckbggpaaGreatDoor
open Go Go.RowKit

set_option maxRecDepth 100000 in
set_option maxHeartbeats 2000000 in
theorem do_SETNX {w0 w : World} {l r : Hp} {sb : Nat} {S : St} {g off : Nat} {c : ByteArray} {k m : ByteArray} {ws : List ByteArray} (h : Ctx w0 w l r sb S g off (c :: k :: m :: ws)) (hc : wcheck (c :: k :: m :: ws) = (spSETNX, ByteArray.empty)) (now : Int) (cap : Nat) (hcap : (c :: k :: m :: ws).length ≤ cap) (hcap2 : cap ≤ 1099511627776)  :
    Calls Tryz.prog 28 #[ptr sb, .int .i64 now, .slice (some ⟨g, off, none⟩) (c :: k :: m :: ws).length cap] w (DoPost w0 r sb (tNx S now k m).1 (tNx S now k m).2) := by
  have H := h.alloc ZeroVal
  have hchk := check_some H.st (H.args.more (x := l)) cap
  rw [hc] at hchk
  clear hc
  unfold CheckPost Sp.val specVal spSETNX at hchk
  simp only at hchk
  generalize hT : tNx S now k m = T
  replace hT := hid hT
  have hx : ∀ (w' : World) (x : Hp), Step w0 [] w' (l ++ (x ++ r)) → Ctx w0 w' l (x ++ r) sb S g (off + 1) (k :: m :: ws) := fun w' x hS => (h.at (x := x) rfl hS).tail
  have hn : 1 < (c :: k :: m :: ws).length := by simp only [List.length_cons]; omega
  obtain ⟨n, hlen⟩ : ∃ n, (c :: k :: m :: ws).length = n := ⟨_, rfl⟩
  have hlen1 : (k :: m :: ws).length = n - 1 := by rw [← hlen]; simp only [List.length_cons]; omega
  have hcap' : n ≤ cap := by rw [← hlen]; exact hcap
  rw [hlen] at hchk hn ⊢
  have hc1 : ¬ cap - 1 = 0 := by omega
  have hn3 : (1 : Int) < (n : Int) := by omega
  have hn4 : 0 < n := by omega
  replace hlen := hid hlen
  replace hlen1 := hid hlen1
  replace hchk := hid hchk
  replace hx := hid hx
  replace hcap := hid hcap
  clear h H
  go_enter Tryz.func28, Tryz.ntmps28
  go_wp2_with fail
  refine hchk.out.mono ?_
  rintro e w2 ⟨rfl, S2⟩
  clear hchk
  go_upto_region 2 with fail
  have S3 := S2.alloc (.cells #[.string ⟨#[83, 69, 84, 78, 88]⟩, .int .i64 2, .int .i64 3, .int .i64 3, .int .i64 1, .int .i64 1, .int .i64 1] 48)
  generalize hw3 : w2.alloc _ = w3
  replace S3 : Step w0 [] w3 _ := hw3 ▸ S3
  clear hw3 S2
  generalize w2.heap.size = b1 at S3 ⊢
  generalize w.heap.size = b at S3 ⊢
  have nm := cells_get S3.own.head 0
  simp only [List.getElem?_toArray, List.getElem?_cons_zero] at nm
  go_upto_region 5 with fail
  have S4 := S3.alloc (JobObj sb now g (off + 1) (n - 1) (cap - 1))
  generalize hw4 : w3.alloc _ = w4
  replace S4 : Step w0 [] w4 _ := hw4 ▸ S4
  clear hw4 S3 nm
  generalize w3.heap.size = b2 at S4 ⊢
  have nm := cells_get S4.own.tail.head 0
  simp only [List.getElem?_toArray, List.getElem?_cons_zero] at nm
  obtain ⟨j0, j1, j2⟩ := jobAt S4.own.head
  obtain ⟨X, hX⟩ : ∃ X : Hp, X = [(b2, JobObj sb now g (off + 1) (n - 1) (cap - 1)), (b1, .cells #[.string ⟨#[83, 69, 84, 78, 88]⟩, .int .i64 2, .int .i64 3, .int .i64 3, .int .i64 1, .int .i64 1, .int .i64 1] 48 (0, 0)), (b, ZeroVal)] := ⟨_, rfl⟩
  have S5 : Step w0 [] w4 (l ++ (X ++ r)) := S4.permR (perm_by fun f => by
    rw [hX]; simp only [List.map_append, List.sum_append, List.map_cons, List.sum_cons, List.map_nil, List.sum_nil]; omega)
  have hend : Hid (∀ (w' : World) (l3 : Hp), Step w0 [] w' (l3 ++ (X ++ r)) → Step w0 [] w' ((b, ZeroVal) :: (l3 ++ r ++ [(b2, JobObj sb now g (off + 1) (n - 1) (cap - 1)), (b1, .cells #[.string ⟨#[83, 69, 84, 78, 88]⟩, .int .i64 2, .int .i64 3, .int .i64 3, .int .i64 1, .int .i64 1, .int .i64 1] 48 (0, 0))]))) := hid fun w' l3 h => h.permR (perm_by fun f => by
    rw [hX]; simp only [List.map_append, List.sum_append, List.map_cons, List.sum_cons, List.map_nil, List.sum_nil]; omega)
  clear S4
  replace hX := hid hX
  have hj := nx_job (hx.out w4 X S5) now (cap - 1)
  rw [hlen1.out, hT.out] at hj
  unfold jobVal lfVal ansVal at hj
  replace hj := hid hj
  clear S5 hx hT
  go_wp2_with fail
  refine hj.out.mono ?_
  rintro e w5 ⟨rfl, l5, hX5, S6⟩
  have S7 := hend.out w5 l5 S6
  obtain ⟨⟨c0, hc0⟩, ⟨c1, hc1⟩, ⟨c2, hc2⟩, ⟨c3, hc3⟩, ⟨c4, hc4⟩, ⟨c5, hc5⟩, fz, hlt⟩ := cells6' S7.own.head
  have S9 := hid ((S7.setLf T.2).less (List.sublist_append_left _ _))
  clear hj S6 S7 hend
  go_wp2_with fail
  refine bodyPost_ret (v := .tuple #[lfVal T.2, .bool true]) (by simp [results, Tryz.results28, go_sem, lfVal, ansVal, *] <;> rfl) rfl ?_
  exact ⟨rfl, l5, hX5, S9.out⟩

set_option maxRecDepth 100000 in
set_option maxHeartbeats 2000000 in
theorem do_INCRBY {w0 w : World} {l r : Hp} {sb : Nat} {S : St} {g off : Nat} {c : ByteArray} {k m : ByteArray} {ws : List ByteArray} (h : Ctx w0 w l r sb S g off (c :: k :: m :: ws)) (hc : wcheck (c :: k :: m :: ws) = (spINCRBY, ByteArray.empty)) (now : Int) (cap : Nat) (hcap : (c :: k :: m :: ws).length ≤ cap) (hcap2 : cap ≤ 1099511627776)  :
    Calls Tryz.prog 28 #[ptr sb, .int .i64 now, .slice (some ⟨g, off, none⟩) (c :: k :: m :: ws).length cap] w (DoPost w0 r sb (tAddText S now k m false).1 (tAddText S now k m false).2) := by
  have H := h.alloc ZeroVal
  have hchk := check_some H.st (H.args.more (x := l)) cap
  rw [hc] at hchk
  clear hc
  unfold CheckPost Sp.val specVal spINCRBY at hchk
  simp only at hchk
  generalize hT : tAddText S now k m false = T
  replace hT := hid hT
  have hx : ∀ (w' : World) (x : Hp), Step w0 [] w' (l ++ (x ++ r)) → Ctx w0 w' l (x ++ r) sb S g (off + 1) (k :: m :: ws) := fun w' x hS => (h.at (x := x) rfl hS).tail
  have hn : 1 < (c :: k :: m :: ws).length := by simp only [List.length_cons]; omega
  obtain ⟨n, hlen⟩ : ∃ n, (c :: k :: m :: ws).length = n := ⟨_, rfl⟩
  have hlen1 : (k :: m :: ws).length = n - 1 := by rw [← hlen]; simp only [List.length_cons]; omega
  have hcap' : n ≤ cap := by rw [← hlen]; exact hcap
  rw [hlen] at hchk hn ⊢
  have hc1 : ¬ cap - 1 = 0 := by omega
  have hn3 : (1 : Int) < (n : Int) := by omega
  have hn4 : 0 < n := by omega
  replace hlen := hid hlen
  replace hlen1 := hid hlen1
  replace hchk := hid hchk
  replace hx := hid hx
  replace hcap := hid hcap
  clear h H
  go_enter Tryz.func28, Tryz.ntmps28
  go_wp2_with fail
  refine hchk.out.mono ?_
  rintro e w2 ⟨rfl, S2⟩
  clear hchk
  go_upto_region 2 with fail
  have S3 := S2.alloc (.cells #[.string ⟨#[73, 78, 67, 82, 66, 89]⟩, .int .i64 2, .int .i64 3, .int .i64 3, .int .i64 1, .int .i64 1, .int .i64 1] 48)
  generalize hw3 : w2.alloc _ = w3
  replace S3 : Step w0 [] w3 _ := hw3 ▸ S3
  clear hw3 S2
  generalize w2.heap.size = b1 at S3 ⊢
  generalize w.heap.size = b at S3 ⊢
  have nm := cells_get S3.own.head 0
  simp only [List.getElem?_toArray, List.getElem?_cons_zero] at nm
  go_upto_region 5 with fail
  have S4 := S3.alloc (JobObj sb now g (off + 1) (n - 1) (cap - 1))
  generalize hw4 : w3.alloc _ = w4
  replace S4 : Step w0 [] w4 _ := hw4 ▸ S4
  clear hw4 S3 nm
  generalize w3.heap.size = b2 at S4 ⊢
  have nm := cells_get S4.own.tail.head 0
  simp only [List.getElem?_toArray, List.getElem?_cons_zero] at nm
  obtain ⟨j0, j1, j2⟩ := jobAt S4.own.head
  obtain ⟨X, hX⟩ : ∃ X : Hp, X = [(b2, JobObj sb now g (off + 1) (n - 1) (cap - 1)), (b1, .cells #[.string ⟨#[73, 78, 67, 82, 66, 89]⟩, .int .i64 2, .int .i64 3, .int .i64 3, .int .i64 1, .int .i64 1, .int .i64 1] 48 (0, 0)), (b, ZeroVal)] := ⟨_, rfl⟩
  have S5 : Step w0 [] w4 (l ++ (X ++ r)) := S4.permR (perm_by fun f => by
    rw [hX]; simp only [List.map_append, List.sum_append, List.map_cons, List.sum_cons, List.map_nil, List.sum_nil]; omega)
  have hend : Hid (∀ (w' : World) (l3 : Hp), Step w0 [] w' (l3 ++ (X ++ r)) → Step w0 [] w' ((b, ZeroVal) :: (l3 ++ r ++ [(b2, JobObj sb now g (off + 1) (n - 1) (cap - 1)), (b1, .cells #[.string ⟨#[73, 78, 67, 82, 66, 89]⟩, .int .i64 2, .int .i64 3, .int .i64 3, .int .i64 1, .int .i64 1, .int .i64 1] 48 (0, 0))]))) := hid fun w' l3 h => h.permR (perm_by fun f => by
    rw [hX]; simp only [List.map_append, List.sum_append, List.map_cons, List.sum_cons, List.map_nil, List.sum_nil]; omega)
  clear S4
  replace hX := hid hX
  have hj := addText_job (hx.out w4 X S5) now (cap - 1) false
  rw [hlen1.out, hT.out] at hj
  unfold jobVal lfVal ansVal at hj
  replace hj := hid hj
  clear S5 hx hT
  go_wp2_with fail
  refine hj.out.mono ?_
  rintro e w5 ⟨rfl, l5, hX5, S6⟩
  have S7 := hend.out w5 l5 S6
  obtain ⟨⟨c0, hc0⟩, ⟨c1, hc1⟩, ⟨c2, hc2⟩, ⟨c3, hc3⟩, ⟨c4, hc4⟩, ⟨c5, hc5⟩, fz, hlt⟩ := cells6' S7.own.head
  have S9 := hid ((S7.setLf T.2).less (List.sublist_append_left _ _))
  clear hj S6 S7 hend
  go_wp2_with fail
  refine bodyPost_ret (v := .tuple #[lfVal T.2, .bool true]) (by simp [results, Tryz.results28, go_sem, lfVal, ansVal, *] <;> rfl) rfl ?_
  exact ⟨rfl, l5, hX5, S9.out⟩

set_option maxRecDepth 100000 in
set_option maxHeartbeats 2000000 in
theorem do_GETSET {w0 w : World} {l r : Hp} {sb : Nat} {S : St} {g off : Nat} {c : ByteArray} {k m : ByteArray} {ws : List ByteArray} (h : Ctx w0 w l r sb S g off (c :: k :: m :: ws)) (hc : wcheck (c :: k :: m :: ws) = (spGETSET, ByteArray.empty)) (now : Int) (cap : Nat) (hcap : (c :: k :: m :: ws).length ≤ cap) (hcap2 : cap ≤ 1099511627776)  :
    Calls Tryz.prog 28 #[ptr sb, .int .i64 now, .slice (some ⟨g, off, none⟩) (c :: k :: m :: ws).length cap] w (DoPost w0 r sb (tSwap S now k m false).1 (tSwap S now k m false).2) := by
  have H := h.alloc ZeroVal
  have hchk := check_some H.st (H.args.more (x := l)) cap
  rw [hc] at hchk
  clear hc
  unfold CheckPost Sp.val specVal spGETSET at hchk
  simp only at hchk
  generalize hT : tSwap S now k m false = T
  replace hT := hid hT
  have hx : ∀ (w' : World) (x : Hp), Step w0 [] w' (l ++ (x ++ r)) → Ctx w0 w' l (x ++ r) sb S g (off + 1) (k :: m :: ws) := fun w' x hS => (h.at (x := x) rfl hS).tail
  have hn : 1 < (c :: k :: m :: ws).length := by simp only [List.length_cons]; omega
  obtain ⟨n, hlen⟩ : ∃ n, (c :: k :: m :: ws).length = n := ⟨_, rfl⟩
  have hlen1 : (k :: m :: ws).length = n - 1 := by rw [← hlen]; simp only [List.length_cons]; omega
  have hcap' : n ≤ cap := by rw [← hlen]; exact hcap
  rw [hlen] at hchk hn ⊢
  have hc1 : ¬ cap - 1 = 0 := by omega
  have hn3 : (1 : Int) < (n : Int) := by omega
  have hn4 : 0 < n := by omega
  replace hlen := hid hlen
  replace hlen1 := hid hlen1
  replace hchk := hid hchk
  replace hx := hid hx
  replace hcap := hid hcap
  clear h H
  go_enter Tryz.func28, Tryz.ntmps28
  go_wp2_with fail
  refine hchk.out.mono ?_
  rintro e w2 ⟨rfl, S2⟩
  clear hchk
  go_upto_region 2 with fail
  have S3 := S2.alloc (.cells #[.string ⟨#[71, 69, 84, 83, 69, 84]⟩, .int .i64 2, .int .i64 3, .int .i64 3, .int .i64 1, .int .i64 1, .int .i64 1] 48)
  generalize hw3 : w2.alloc _ = w3
  replace S3 : Step w0 [] w3 _ := hw3 ▸ S3
  clear hw3 S2
  generalize w2.heap.size = b1 at S3 ⊢
  generalize w.heap.size = b at S3 ⊢
  have nm := cells_get S3.own.head 0
  simp only [List.getElem?_toArray, List.getElem?_cons_zero] at nm
  go_upto_region 5 with fail
  have S4 := S3.alloc (JobObj sb now g (off + 1) (n - 1) (cap - 1))
  generalize hw4 : w3.alloc _ = w4
  replace S4 : Step w0 [] w4 _ := hw4 ▸ S4
  clear hw4 S3 nm
  generalize w3.heap.size = b2 at S4 ⊢
  have nm := cells_get S4.own.tail.head 0
  simp only [List.getElem?_toArray, List.getElem?_cons_zero] at nm
  obtain ⟨j0, j1, j2⟩ := jobAt S4.own.head
  obtain ⟨X, hX⟩ : ∃ X : Hp, X = [(b2, JobObj sb now g (off + 1) (n - 1) (cap - 1)), (b1, .cells #[.string ⟨#[71, 69, 84, 83, 69, 84]⟩, .int .i64 2, .int .i64 3, .int .i64 3, .int .i64 1, .int .i64 1, .int .i64 1] 48 (0, 0)), (b, ZeroVal)] := ⟨_, rfl⟩
  have S5 : Step w0 [] w4 (l ++ (X ++ r)) := S4.permR (perm_by fun f => by
    rw [hX]; simp only [List.map_append, List.sum_append, List.map_cons, List.sum_cons, List.map_nil, List.sum_nil]; omega)
  have hend : Hid (∀ (w' : World) (l3 : Hp), Step w0 [] w' (l3 ++ (X ++ r)) → Step w0 [] w' ((b, ZeroVal) :: (l3 ++ r ++ [(b2, JobObj sb now g (off + 1) (n - 1) (cap - 1)), (b1, .cells #[.string ⟨#[71, 69, 84, 83, 69, 84]⟩, .int .i64 2, .int .i64 3, .int .i64 3, .int .i64 1, .int .i64 1, .int .i64 1] 48 (0, 0))]))) := hid fun w' l3 h => h.permR (perm_by fun f => by
    rw [hX]; simp only [List.map_append, List.sum_append, List.map_cons, List.sum_cons, List.map_nil, List.sum_nil]; omega)
  clear S4
  replace hX := hid hX
  have hj := swap_job (hx.out w4 X S5) now (cap - 1) m false (fun _ => ⟨ws, rfl⟩)
  rw [hlen1.out, hT.out] at hj
  unfold jobVal lfVal ansVal at hj
  replace hj := hid hj
  clear S5 hx hT
  go_wp2_with fail
  refine hj.out.mono ?_
  rintro e w5 ⟨rfl, l5, hX5, S6⟩
  have S7 := hend.out w5 l5 S6
  obtain ⟨⟨c0, hc0⟩, ⟨c1, hc1⟩, ⟨c2, hc2⟩, ⟨c3, hc3⟩, ⟨c4, hc4⟩, ⟨c5, hc5⟩, fz, hlt⟩ := cells6' S7.own.head
  have S9 := hid ((S7.setLf T.2).less (List.sublist_append_left _ _))
  clear hj S6 S7 hend
  go_wp2_with fail
  refine bodyPost_ret (v := .tuple #[lfVal T.2, .bool true]) (by simp [results, Tryz.results28, go_sem, lfVal, ansVal, *] <;> rfl) rfl ?_
  exact ⟨rfl, l5, hX5, S9.out⟩

end Go.Proofs.YthfngplckbggpaaGreatDoor

namespace Go.Proofs.YthfngplckbggpaaGreatDoor
open Go Go.RowKit

set_option maxRecDepth 100000 in
set_option maxHeartbeats 2000000 in
theorem do_MSET {w0 w : World} {l r : Hp} {sb : Nat} {S : St} {g off : Nat} {c : ByteArray} {k : ByteArray} {ws : List ByteArray} (h : Ctx w0 w l r sb S g off (c :: k :: ws)) (hc : wcheck (c :: k :: ws) = (spMSET, ByteArray.empty)) (now : Int) (cap : Nat) (hcap : (c :: k :: ws).length ≤ cap) (hcap2 : cap ≤ 1099511627776) (hfew : (c :: k :: ws).length ≤ 1000) :
    Calls Tryz.prog 28 #[ptr sb, .int .i64 now, .slice (some ⟨g, off, none⟩) (c :: k :: ws).length cap] w (DoPost w0 r sb (tPairs S now (k :: ws)).1 (tPairs S now (k :: ws)).2) := by
  have H := h.alloc ZeroVal
  have hchk := check_some H.st (H.args.more (x := l)) cap
  rw [hc] at hchk
  clear hc
  unfold CheckPost Sp.val specVal spMSET at hchk
  simp only at hchk
  generalize hT : tPairs S now (k :: ws) = T
  replace hT := hid hT
  have hx : ∀ (w' : World) (x : Hp), Step w0 [] w' (l ++ (x ++ r)) → Ctx w0 w' l (x ++ r) sb S g (off + 1) (k :: ws) := fun w' x hS => (h.at (x := x) rfl hS).tail
  have hn : 1 < (c :: k :: ws).length := by simp only [List.length_cons]; omega
  obtain ⟨n, hlen⟩ : ∃ n, (c :: k :: ws).length = n := ⟨_, rfl⟩
  have hlen1 : (k :: ws).length = n - 1 := by rw [← hlen]; simp only [List.length_cons]; omega
  have hcap' : n ≤ cap := by rw [← hlen]; exact hcap
  rw [hlen] at hchk hn ⊢
  have hc1 : ¬ cap - 1 = 0 := by omega
  have hn3 : (1 : Int) < (n : Int) := by omega
  have hn4 : 0 < n := by omega
  replace hlen := hid hlen
  replace hlen1 := hid hlen1
  replace hchk := hid hchk
  replace hx := hid hx
  replace hcap := hid hcap
  clear h H
  go_enter Tryz.func28, Tryz.ntmps28
  go_wp2_with fail
  refine hchk.out.mono ?_
  rintro e w2 ⟨rfl, S2⟩
  clear hchk
  go_upto_region 2 with fail
  have S3 := S2.alloc (.cells #[.string ⟨#[77, 83, 69, 84]⟩, .int .i64 2, .int .i64 3, .int .i64 64, .int .i64 1, .int .i64 (-1), .int .i64 2] 48)
  generalize hw3 : w2.alloc _ = w3
  replace S3 : Step w0 [] w3 _ := hw3 ▸ S3
  clear hw3 S2
  generalize w2.heap.size = b1 at S3 ⊢
  generalize w.heap.size = b at S3 ⊢
  have nm := cells_get S3.own.head 0
  simp only [List.getElem?_toArray, List.getElem?_cons_zero] at nm
  go_upto_region 5 with fail
  have S4 := S3.alloc (JobObj sb now g (off + 1) (n - 1) (cap - 1))
  generalize hw4 : w3.alloc _ = w4
  replace S4 : Step w0 [] w4 _ := hw4 ▸ S4
  clear hw4 S3 nm
  generalize w3.heap.size = b2 at S4 ⊢
  have nm := cells_get S4.own.tail.head 0
  simp only [List.getElem?_toArray, List.getElem?_cons_zero] at nm
  obtain ⟨j0, j1, j2⟩ := jobAt S4.own.head
  obtain ⟨X, hX⟩ : ∃ X : Hp, X = [(b2, JobObj sb now g (off + 1) (n - 1) (cap - 1)), (b1, .cells #[.string ⟨#[77, 83, 69, 84]⟩, .int .i64 2, .int .i64 3, .int .i64 64, .int .i64 1, .int .i64 (-1), .int .i64 2] 48 (0, 0)), (b, ZeroVal)] := ⟨_, rfl⟩
  have S5 : Step w0 [] w4 (l ++ (X ++ r)) := S4.permR (perm_by fun f => by
    rw [hX]; simp only [List.map_append, List.sum_append, List.map_cons, List.sum_cons, List.map_nil, List.sum_nil]; omega)
  have hend : Hid (∀ (w' : World) (l3 : Hp), Step w0 [] w' (l3 ++ (X ++ r)) → Step w0 [] w' ((b, ZeroVal) :: (l3 ++ r ++ [(b2, JobObj sb now g (off + 1) (n - 1) (cap - 1)), (b1, .cells #[.string ⟨#[77, 83, 69, 84]⟩, .int .i64 2, .int .i64 3, .int .i64 64, .int .i64 1, .int .i64 (-1), .int .i64 2] 48 (0, 0))]))) := hid fun w' l3 h => h.permR (perm_by fun f => by
    rw [hX]; simp only [List.map_append, List.sum_append, List.map_cons, List.sum_cons, List.map_nil, List.sum_nil]; omega)
  clear S4
  replace hX := hid hX
  have hj := pairs_job (hx.out w4 X S5) (by have := hfew; simp only [List.length_cons] at this ⊢; omega) now (cap - 1)
  rw [hlen1.out, hT.out] at hj
  unfold jobVal lfVal ansVal at hj
  replace hj := hid hj
  clear S5 hx hT
  go_wp2_with fail
  refine hj.out.mono ?_
  rintro e w5 ⟨rfl, l5, hX5, S6⟩
  have S7 := hend.out w5 l5 S6
  obtain ⟨⟨c0, hc0⟩, ⟨c1, hc1⟩, ⟨c2, hc2⟩, ⟨c3, hc3⟩, ⟨c4, hc4⟩, ⟨c5, hc5⟩, fz, hlt⟩ := cells6' S7.own.head
  have S9 := hid ((S7.setLf T.2).less (List.sublist_append_left _ _))
  clear hj S6 S7 hend
  go_wp2_with fail
  refine bodyPost_ret (v := .tuple #[lfVal T.2, .bool true]) (by simp [results, Tryz.results28, go_sem, lfVal, ansVal, *] <;> rfl) rfl ?_
  exact ⟨rfl, l5, hX5, S9.out⟩

set_option maxRecDepth 100000 in
set_option maxHeartbeats 2000000 in
theorem do_DECRBY {w0 w : World} {l r : Hp} {sb : Nat} {S : St} {g off : Nat} {c : ByteArray} {k m : ByteArray} {ws : List ByteArray} (h : Ctx w0 w l r sb S g off (c :: k :: m :: ws)) (hc : wcheck (c :: k :: m :: ws) = (spDECRBY, ByteArray.empty)) (now : Int) (cap : Nat) (hcap : (c :: k :: m :: ws).length ≤ cap) (hcap2 : cap ≤ 1099511627776)  :
    Calls Tryz.prog 28 #[ptr sb, .int .i64 now, .slice (some ⟨g, off, none⟩) (c :: k :: m :: ws).length cap] w (DoPost w0 r sb (tAddText S now k m true).1 (tAddText S now k m true).2) := by
  have H := h.alloc ZeroVal
  have hchk := check_some H.st (H.args.more (x := l)) cap
  rw [hc] at hchk
  clear hc
  unfold CheckPost Sp.val specVal spDECRBY at hchk
  simp only at hchk
  generalize hT : tAddText S now k m true = T
  replace hT := hid hT
  have hx : ∀ (w' : World) (x : Hp), Step w0 [] w' (l ++ (x ++ r)) → Ctx w0 w' l (x ++ r) sb S g (off + 1) (k :: m :: ws) := fun w' x hS => (h.at (x := x) rfl hS).tail
  have hn : 1 < (c :: k :: m :: ws).length := by simp only [List.length_cons]; omega
  obtain ⟨n, hlen⟩ : ∃ n, (c :: k :: m :: ws).length = n := ⟨_, rfl⟩
  have hlen1 : (k :: m :: ws).length = n - 1 := by rw [← hlen]; simp only [List.length_cons]; omega
  have hcap' : n ≤ cap := by rw [← hlen]; exact hcap
  rw [hlen] at hchk hn ⊢
  have hc1 : ¬ cap - 1 = 0 := by omega
  have hn3 : (1 : Int) < (n : Int) := by omega
  have hn4 : 0 < n := by omega
  replace hlen := hid hlen
  replace hlen1 := hid hlen1
  replace hchk := hid hchk
  replace hx := hid hx
  replace hcap := hid hcap
  clear h H
  go_enter Tryz.func28, Tryz.ntmps28
  go_wp2_with fail
  refine hchk.out.mono ?_
  rintro e w2 ⟨rfl, S2⟩
  clear hchk
  go_upto_region 2 with fail
  have S3 := S2.alloc (.cells #[.string ⟨#[68, 69, 67, 82, 66, 89]⟩, .int .i64 2, .int .i64 3, .int .i64 3, .int .i64 1, .int .i64 1, .int .i64 1] 48)
  generalize hw3 : w2.alloc _ = w3
  replace S3 : Step w0 [] w3 _ := hw3 ▸ S3
  clear hw3 S2
  generalize w2.heap.size = b1 at S3 ⊢
  generalize w.heap.size = b at S3 ⊢
  have nm := cells_get S3.own.head 0
  simp only [List.getElem?_toArray, List.getElem?_cons_zero] at nm
  go_upto_region 5 with fail
  have S4 := S3.alloc (JobObj sb now g (off + 1) (n - 1) (cap - 1))
  generalize hw4 : w3.alloc _ = w4
  replace S4 : Step w0 [] w4 _ := hw4 ▸ S4
  clear hw4 S3 nm
  generalize w3.heap.size = b2 at S4 ⊢
  have nm := cells_get S4.own.tail.head 0
  simp only [List.getElem?_toArray, List.getElem?_cons_zero] at nm
  obtain ⟨j0, j1, j2⟩ := jobAt S4.own.head
  obtain ⟨X, hX⟩ : ∃ X : Hp, X = [(b2, JobObj sb now g (off + 1) (n - 1) (cap - 1)), (b1, .cells #[.string ⟨#[68, 69, 67, 82, 66, 89]⟩, .int .i64 2, .int .i64 3, .int .i64 3, .int .i64 1, .int .i64 1, .int .i64 1] 48 (0, 0)), (b, ZeroVal)] := ⟨_, rfl⟩
  have S5 : Step w0 [] w4 (l ++ (X ++ r)) := S4.permR (perm_by fun f => by
    rw [hX]; simp only [List.map_append, List.sum_append, List.map_cons, List.sum_cons, List.map_nil, List.sum_nil]; omega)
  have hend : Hid (∀ (w' : World) (l3 : Hp), Step w0 [] w' (l3 ++ (X ++ r)) → Step w0 [] w' ((b, ZeroVal) :: (l3 ++ r ++ [(b2, JobObj sb now g (off + 1) (n - 1) (cap - 1)), (b1, .cells #[.string ⟨#[68, 69, 67, 82, 66, 89]⟩, .int .i64 2, .int .i64 3, .int .i64 3, .int .i64 1, .int .i64 1, .int .i64 1] 48 (0, 0))]))) := hid fun w' l3 h => h.permR (perm_by fun f => by
    rw [hX]; simp only [List.map_append, List.sum_append, List.map_cons, List.sum_cons, List.map_nil, List.sum_nil]; omega)
  clear S4
  replace hX := hid hX
  have hj := addText_job (hx.out w4 X S5) now (cap - 1) true
  rw [hlen1.out, hT.out] at hj
  unfold jobVal lfVal ansVal at hj
  replace hj := hid hj
  clear S5 hx hT
  go_wp2_with fail
  refine hj.out.mono ?_
  rintro e w5 ⟨rfl, l5, hX5, S6⟩
  have S7 := hend.out w5 l5 S6
  obtain ⟨⟨c0, hc0⟩, ⟨c1, hc1⟩, ⟨c2, hc2⟩, ⟨c3, hc3⟩, ⟨c4, hc4⟩, ⟨c5, hc5⟩, fz, hlt⟩ := cells6' S7.own.head
  have S9 := hid ((S7.setLf T.2).less (List.sublist_append_left _ _))
  clear hj S6 S7 hend
  go_wp2_with fail
  refine bodyPost_ret (v := .tuple #[lfVal T.2, .bool true]) (by simp [results, Tryz.results28, go_sem, lfVal, ansVal, *] <;> rfl) rfl ?_
  exact ⟨rfl, l5, hX5, S9.out⟩

set_option maxRecDepth 100000 in
set_option maxHeartbeats 2000000 in
theorem do_GETDEL {w0 w : World} {l r : Hp} {sb : Nat} {S : St} {g off : Nat} {c : ByteArray} {k : ByteArray} {ws : List ByteArray} (h : Ctx w0 w l r sb S g off (c :: k :: ws)) (hc : wcheck (c :: k :: ws) = (spGETDEL, ByteArray.empty)) (now : Int) (cap : Nat) (hcap : (c :: k :: ws).length ≤ cap) (hcap2 : cap ≤ 1099511627776)  :
    Calls Tryz.prog 28 #[ptr sb, .int .i64 now, .slice (some ⟨g, off, none⟩) (c :: k :: ws).length cap] w (DoPost w0 r sb (tSwap S now k ByteArray.empty true).1 (tSwap S now k ByteArray.empty true).2) := by
  have H := h.alloc ZeroVal
  have hchk := check_some H.st (H.args.more (x := l)) cap
  rw [hc] at hchk
  clear hc
  unfold CheckPost Sp.val specVal spGETDEL at hchk
  simp only at hchk
  generalize hT : tSwap S now k ByteArray.empty true = T
  replace hT := hid hT
  have hx : ∀ (w' : World) (x : Hp), Step w0 [] w' (l ++ (x ++ r)) → Ctx w0 w' l (x ++ r) sb S g (off + 1) (k :: ws) := fun w' x hS => (h.at (x := x) rfl hS).tail
  have hn : 1 < (c :: k :: ws).length := by simp only [List.length_cons]; omega
  obtain ⟨n, hlen⟩ : ∃ n, (c :: k :: ws).length = n := ⟨_, rfl⟩
  have hlen1 : (k :: ws).length = n - 1 := by rw [← hlen]; simp only [List.length_cons]; omega
  have hcap' : n ≤ cap := by rw [← hlen]; exact hcap
  rw [hlen] at hchk hn ⊢
  have hc1 : ¬ cap - 1 = 0 := by omega
  have hn3 : (1 : Int) < (n : Int) := by omega
  have hn4 : 0 < n := by omega
  replace hlen := hid hlen
  replace hlen1 := hid hlen1
  replace hchk := hid hchk
  replace hx := hid hx
  replace hcap := hid hcap
  clear h H
  go_enter Tryz.func28, Tryz.ntmps28
  go_wp2_with fail
  refine hchk.out.mono ?_
  rintro e w2 ⟨rfl, S2⟩
  clear hchk
  go_upto_region 2 with fail
  have S3 := S2.alloc (.cells #[.string ⟨#[71, 69, 84, 68, 69, 76]⟩, .int .i64 2, .int .i64 2, .int .i64 2, .int .i64 1, .int .i64 1, .int .i64 1] 48)
  generalize hw3 : w2.alloc _ = w3
  replace S3 : Step w0 [] w3 _ := hw3 ▸ S3
  clear hw3 S2
  generalize w2.heap.size = b1 at S3 ⊢
  generalize w.heap.size = b at S3 ⊢
  have nm := cells_get S3.own.head 0
  simp only [List.getElem?_toArray, List.getElem?_cons_zero] at nm
  go_upto_region 5 with fail
  have S4 := S3.alloc (JobObj sb now g (off + 1) (n - 1) (cap - 1))
  generalize hw4 : w3.alloc _ = w4
  replace S4 : Step w0 [] w4 _ := hw4 ▸ S4
  clear hw4 S3 nm
  generalize w3.heap.size = b2 at S4 ⊢
  have nm := cells_get S4.own.tail.head 0
  simp only [List.getElem?_toArray, List.getElem?_cons_zero] at nm
  obtain ⟨j0, j1, j2⟩ := jobAt S4.own.head
  obtain ⟨X, hX⟩ : ∃ X : Hp, X = [(b2, JobObj sb now g (off + 1) (n - 1) (cap - 1)), (b1, .cells #[.string ⟨#[71, 69, 84, 68, 69, 76]⟩, .int .i64 2, .int .i64 2, .int .i64 2, .int .i64 1, .int .i64 1, .int .i64 1] 48 (0, 0)), (b, ZeroVal)] := ⟨_, rfl⟩
  have S5 : Step w0 [] w4 (l ++ (X ++ r)) := S4.permR (perm_by fun f => by
    rw [hX]; simp only [List.map_append, List.sum_append, List.map_cons, List.sum_cons, List.map_nil, List.sum_nil]; omega)
  have hend : Hid (∀ (w' : World) (l3 : Hp), Step w0 [] w' (l3 ++ (X ++ r)) → Step w0 [] w' ((b, ZeroVal) :: (l3 ++ r ++ [(b2, JobObj sb now g (off + 1) (n - 1) (cap - 1)), (b1, .cells #[.string ⟨#[71, 69, 84, 68, 69, 76]⟩, .int .i64 2, .int .i64 2, .int .i64 2, .int .i64 1, .int .i64 1, .int .i64 1] 48 (0, 0))]))) := hid fun w' l3 h => h.permR (perm_by fun f => by
    rw [hX]; simp only [List.map_append, List.sum_append, List.map_cons, List.sum_cons, List.map_nil, List.sum_nil]; omega)
  clear S4
  replace hX := hid hX
  have hj := swap_job (hx.out w4 X S5) now (cap - 1) ByteArray.empty true (fun h => by cases h)
  rw [hlen1.out, hT.out] at hj
  unfold jobVal lfVal ansVal at hj
  replace hj := hid hj
  clear S5 hx hT
  go_wp2_with fail
  refine hj.out.mono ?_
  rintro e w5 ⟨rfl, l5, hX5, S6⟩
  have S7 := hend.out w5 l5 S6
  obtain ⟨⟨c0, hc0⟩, ⟨c1, hc1⟩, ⟨c2, hc2⟩, ⟨c3, hc3⟩, ⟨c4, hc4⟩, ⟨c5, hc5⟩, fz, hlt⟩ := cells6' S7.own.head
  have S9 := hid ((S7.setLf T.2).less (List.sublist_append_left _ _))
  clear hj S6 S7 hend
  go_wp2_with fail
  refine bodyPost_ret (v := .tuple #[lfVal T.2, .bool true]) (by simp [results, Tryz.results28, go_sem, lfVal, ansVal, *] <;> rfl) rfl ?_
  exact ⟨rfl, l5, hX5, S9.out⟩

end Go.Proofs.YthfngplckbggpaaGreatDoor
