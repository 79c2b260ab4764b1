/-
  value.Copy, value.List: of a list whose values have no lists.
-/
import Derived.Test.YthfngplckbggpaaGreatDoorP26
set_option linter.unusedVariables false
set_option linter.unusedSimpArgs false
namespace Go.Proofs.YthfngplckbggpaaGreatDoor
open Go Go.RowKit

def lfCell (a : Lf) : List Value := [.int .i64 a.kind, .string a.text, .int .i64 a.n, .float .f64 0, .bool false, .slice none 0 0]
def lfCells (l : List Lf) : List Value := l.flatMap lfCell
theorem lfCells_len (l : List Lf) : (lfCells l).length = l.length * 6 := by
  induction l with
  | nil => rfl
  | cons a l ih => simp only [lfCells, List.flatMap_cons, List.length_append, lfCell, List.length_cons, List.length_nil] at ih ⊢; omega
theorem lfCells_snoc (l : List Lf) (a : Lf) : lfCells (l ++ [a]) = lfCells l ++ lfCell a := by simp [lfCells]
theorem lfCells_at : ∀ (l : List Lf) (i : Nat) (a : Lf), l[i]? = some a → ∀ j v, (lfCell a)[j]? = some v → (lfCells l)[i * 6 + j]? = some v
  | [], i, a, h, _, _, _ => by simp at h
  | t :: l, 0, a, h, j, v, hj => by
    simp at h; subst h
    have hlt : j < (lfCell t).length := (List.getElem?_eq_some_iff.1 hj).1
    show (lfCell t ++ lfCells l)[0 * 6 + j]? = some v
    rw [List.getElem?_append_left (by omega)]
    simpa using hj
  | t :: l, i + 1, a, h, j, v, hj => by
    have := lfCells_at l i a (by simpa using h) j v hj
    show (lfCell t ++ lfCells l)[(i + 1) * 6 + j]? = some v
    have ht : (lfCell t).length = 6 := rfl
    rw [List.getElem?_append_right (by omega), ht, show (i + 1) * 6 + j - 6 = i * 6 + j by omega]
    exact this
structure LfIn (w : World) (g i : Nat) (a : Lf) : Prop where
  c0 : w.cell? ⟨g, i * 6, none⟩ = some (.int .i64 a.kind)
  c1 : w.cell? ⟨g, i * 6 + 1, none⟩ = some (.string a.text)
  c2 : w.cell? ⟨g, i * 6 + 2, none⟩ = some (.int .i64 a.n)
  c3 : w.cell? ⟨g, i * 6 + 3, none⟩ = some (.float .f64 0)
  c4 : w.cell? ⟨g, i * 6 + 4, none⟩ = some (.bool false)
  c5 : w.cell? ⟨g, i * 6 + 5, none⟩ = some (.slice none 0 0)
theorem lfIn {w : World} {g i : Nat} {a : Lf} {l : List Lf} {rest : List Value} {t : TypeId} (h : w.heap[g]? = some (.cells (lfCells l ++ rest).toArray t (0, 0))) (ha : l[i]? = some a) : LfIn w g i a := by
  have k : ∀ j v, (lfCell a)[j]? = some v → w.cell? ⟨g, i * 6 + j, none⟩ = some v := fun j v hj => by
    have h1 := lfCells_at l i a ha j v hj
    have hlt := (List.getElem?_eq_some_iff.1 h1).1
    rw [cells_get h, List.getElem?_toArray, List.getElem?_append_left hlt, h1]
  exact ⟨k 0 _ rfl, k 1 _ rfl, k 2 _ rfl, k 3 _ rfl, k 4 _ rfl, k 5 _ rfl⟩

theorem valInfo : (Tryz.prog.info? 28).map (fun i => (i.zero, i.size, i.bytes)) = some (some (.agg #[.int .i64 0, .string ByteArray.empty, .int .i64 0, .float .f64 0, .bool false, .slice none 0 0]), 6, 72) := by kernel_rfl

/-- v is a slice of these answers. -/
abbrev IsLfs (v : Value) (l : List Lf) (sl : Hp) : Prop := SliceHp 6 28 v l.length (lfCells l) sl

def ListPost (w0 : World) (r : Hp) (kind : Int) (text : ByteArray) (n : Int) (l : List Lf) (e : Ending) (w' : World) : Prop :=
  ∃ v sl, e = .returned (ansVal kind text n v) ∧ IsLfs v l sl ∧ Step w0 [] w' (sl ++ r)

/-- One more answer behind. -/
theorem push_lf {w0 w : World} {sl r : Hp} {va : Option Addr} {k c : Nat} {l : List Lf} {a : Lf} {nb : Nat} (hS : Step w0 [] w (sl ++ r)) (hsl : IsLfs (.slice va k c) l sl) (hk : l.length = k) (hB : k ≤ 1000000000) (hm : (nb, LfObj a) ∈ r) :
    ∃ va' c' w' sl', (Builtin.append_ #[26, 26] 26 #[.slice va k c, .slice (some ⟨nb, 0, none⟩) 1 1]).run Tryz.prog w = .ok (.slice va' (k + 1) c') w' ∧ IsLfs (.slice va' (k + 1) c') (l ++ [a]) sl' ∧ Step w0 [] w' (sl' ++ r) := by
  have hh := hS.own.right.at_ _ hm
  obtain ⟨v', w', sl', hrun, hsl', S', _⟩ := run_append (P := Tryz.prog) (ty := 26) Tryz.underlying26 Tryz.underlying26 valInfo rfl (by decide) hS hsl
    ⟨nb, 0, none⟩ 1 1 (lfCell a) rfl (by
      intro j u hu
      rw [addr_add, Nat.zero_add, cells_get hh, ← hu]
      show (lfCell a).toArray[j]? = (lfCell a)[j]?
      rw [List.getElem?_toArray]) (by simp [lfCell, Value.oneCell']) (by omega) (by rw [hk]; omega) (by rw [hk]; unfold maxLen; omega)
  obtain ⟨a', c', rfl, _, _⟩ := hsl'.form
  rw [hk] at hrun hsl'
  refine ⟨a', c', w', sl', hrun, ?_, S'⟩
  show SliceHp 6 _ _ (l ++ [a]).length (lfCells (l ++ [a])) sl'
  rw [List.length_append, lfCells_snoc, hk]
  exact hsl'

set_option maxRecDepth 100000 in
set_option maxHeartbeats 2000000 in
theorem vcopy_list {w0 w : World} {sl r : Hp} {va : Option Addr} {m c : Nat} {l : List Lf} (hS : Step w0 [] w (sl ++ r)) (hsl : IsLfs (.slice va m c) l sl) (hB : l.length ≤ 1000000) (kind : Int) (text : ByteArray) (n : Int) :
    Calls Tryz.prog 153 #[ansVal kind text n (.slice va m c)] w (ListPost w0 (sl ++ r) kind text n l) := by
  obtain ⟨a', c', hv, hc1, hc2⟩ := hsl.form
  obtain ⟨rfl, rfl, rfl⟩ : va = a' ∧ m = l.length ∧ c = c' := by injection hv with h1 h2 h3; exact ⟨h1, h2, h3⟩
  clear hv
  have S1 := (hS.alloc (.cells #[.int .i64 kind, .string text, .int .i64 n, .float .f64 0, .bool false, .slice va l.length c] 28)).alloc ZeroVal
  rw [World.size_alloc] at S1
  obtain ⟨hm2, hm0⟩ : l.length ≤ 1000000 ∧ True := ⟨hB, trivial⟩
  replace S1 := hid S1
  clear hS
  go_enter Tryz.func153, Tryz.ntmps153
  unfold ansVal
  go_wp2_with fail
  generalize hw1 : (w.alloc _).alloc _ = w1
  replace S1 : Step w0 [] w1 _ := hw1 ▸ S1.out
  clear hw1
  generalize w.heap.size = b at S1 ⊢
  obtain ⟨L, hL⟩ : ∃ L : Hp, L = (b + 1, ZeroVal) :: (b, .cells #[.int .i64 kind, .string text, .int .i64 n, .float .f64 0, .bool false, .slice va l.length c] 28 (0, 0)) :: (sl ++ r) := ⟨_, rfl⟩
  rw [← hL] at S1
  have hin : ∀ (w' : World) (x : Hp), Step w0 [] w' (x ++ L) → Own w' (sl ++ r) := fun w' x h => by
    have := h.own.right
    rw [hL] at this
    exact this.tail.tail
  replace hL := hid hL
  replace hin := hid hin
  have hm3 : (l.length : Int) ≤ 1000000 := by omega
  obtain ⟨m, hm⟩ : ∃ m, l.length = m := ⟨_, rfl⟩
  rw [hm] at hm2 hm3 hc1 ⊢
  have S0 : Hid (Step w0 [] w1 ([] ++ L)) := hid S1
  clear S1
  have hread : Hid (∀ (k : Nat) (a : Lf), l[k]? = some a → ∃ g, va = some ⟨g, 0, none⟩ ∧ ∀ (w' : World) (x : Hp), Step w0 [] w' (x ++ L) → LfIn w' g k a) := hid (fun k a ha => by
    have hlt := (List.getElem?_eq_some_iff.1 ha).1
    obtain ⟨g, cap, rest, hv, _, _, hsl2, _⟩ := hsl.view (by omega)
    injection hv with h1 h2 h3
    refine ⟨g, h1, fun w' x hw => ?_⟩
    have ho := hin.out w' x hw
    rw [hsl2] at ho
    exact lfIn ho.left.head ha)
  have hbox : Hid (∀ (w' : World) (x : Hp), Step w0 [] w' (x ++ L) → w'.heap[b]? = some (.cells #[.int .i64 kind, .string text, .int .i64 n, .float .f64 0, .bool false, .slice va m c] 28 (0, 0)) ∧ w'.heap[b + 1]? = some ZeroVal) := hid (fun w' x hw => by
    have := hw.own.right
    rw [hL.out, hm] at this
    exact ⟨this.tail.head, this.head⟩)
  clear hsl hin
  go_loopw [3, 5, 9] (fun s3 s5 s9 wr => ∃ (k : Nat) (va' : Option Addr) (c' : Nat) (sl' : Hp), s3 = .slice va' k c' ∧ s9 = .int .i64 k ∧ k ≤ m ∧ Hid (IsLfs (.slice va' k c') (l.take k) sl') ∧ Hid (Step w0 [] wr (sl' ++ L))) (fun s3 s5 s9 wr => (m - intOf s9).toNat)
  case atStart => exact ⟨0, none, 0, [], rfl, rfl, Nat.zero_le _, hid .nil, S0⟩
  case round =>
    obtain ⟨k, va', c', sl', rfl, rfl, hk, hat, S2⟩ := hrel
    clear S0
    by_cases hlt : k < m
    · obtain ⟨a, ha⟩ : ∃ a, l[k]? = some a := ⟨l[k]'(by omega), List.getElem?_eq_getElem _⟩
      obtain ⟨g, hva, hr⟩ := hread.out k a ha
      subst hva
      obtain ⟨c0, c1, c2, c3, c4, c5⟩ := hr wr sl' S2.out
      have S3 := S2.out.alloc (LfObj a)
      have hcopy := vcopy_leaf S3 a.kind a.text a.n
      unfold ansVal at hcopy
      replace hcopy := hid hcopy
      clear hr S3
      replace ha := hid ha
      go_wp2_with fail
      refine hcopy.out.mono ?_
      rintro e w2 ⟨rfl, S4⟩
      have S5 := S4.alloc (LfObj a)
      obtain ⟨va2, c2', w4, sl2, hrun, hat2, S6⟩ := push_lf (nb := w2.heap.size) (a := a) (r := (w2.heap.size, LfObj a) :: (wr.heap.size, LfObj a) :: L) (S5.permR (perm_by fun f => by simp only [List.map_append, List.sum_append, List.map_cons, List.sum_cons]; omega)) hat.out (by rw [List.length_take]; omega) (by omega) (by simp)
      have S7 := hid (S6.pick (l2 := sl2 ++ L) (m := [(w2.heap.size, LfObj a), (wr.heap.size, LfObj a)]) (perm_by fun f => by simp only [List.map_append, List.sum_append, List.map_cons, List.sum_cons, List.map_nil, List.sum_nil]; omega))
      replace hrun := hid hrun
      have htk : Hid (IsLfs (.slice va2 (k + 1) c2') (l.take (k + 1)) sl2) := hid (by rw [List.take_add_one, ha.out]; exact hat2)
      clear S4 S5 S6 hcopy c0 c1 c2 c3 c4 c5 S2 hat hat2
      go_wp2_with (at_builtin; refine wpList_append_run rfl _ _ _ _ rfl _ _ rfl rfl hrun.out ?_)
      go_roundw
      case rel => exact ⟨k + 1, va2, c2', sl2, rfl, rfl, hlt, htk, S7⟩
      case measure => simp [intOf]; omega
    · obtain rfl : k = m := by omega
      obtain ⟨hb0, hb1⟩ := hbox.out wr sl' S2.out
      have x0 := cells_get hb0 0
      have x1 := cells_get hb0 1
      have x2 := cells_get hb0 2
      have x3 := cells_get hb0 3
      have x4 := cells_get hb0 4
      have x5 := cells_get hb0 5
      simp only [List.getElem?_toArray, List.getElem?_cons_zero, List.getElem?_cons_succ] at x0 x1 x2 x3 x4 x5
      have xf := fun j => cells_free hb0 j
      have hltb := block_lt hb0
      obtain ⟨⟨c0, hc0⟩, ⟨c1, hc1⟩, ⟨c2, hc2⟩, ⟨c3, hc3⟩, ⟨c4, hc4⟩, ⟨c5, hc5⟩, fz, hlt2⟩ := cells6' hb1
      have S3 := S2.out.permR (l2 := (b, .cells #[.int .i64 kind, .string text, .int .i64 n, .float .f64 0, .bool false, .slice va l.length c] 28 (0, 0)) :: (b + 1, ZeroVal) :: (sl' ++ (sl ++ r))) (perm_by fun f => by
        rw [hL.out]; simp only [List.map_append, List.sum_append, List.map_cons, List.sum_cons]; omega)
      have S4 := (S3.set 5 (.slice va' k c')).less (List.sublist_cons_self _ _)
      have S9 := hid (((((((S4.set 0 (.int .i64 kind)).set 1 (.string text)).set 2 (.int .i64 n)).set 3 (.float .f64 0)).set 4 (.bool false)).set 5 (.slice va' k c')).less (List.sublist_cons_self _ _))
      have hfull : Hid (IsLfs (.slice va' k c') l sl') := hid (by have := hat.out; rw [← hm, List.take_length] at this; rw [← hm]; exact this)
      clear S2 S3 S4 hb0 hb1 hat hread hbox
      go_wp2_with fail
      refine bodyPost_ret (v := ansVal kind text n (.slice va' k c')) (by simp [results, Tryz.results153, go_sem, ansVal, *] <;> rfl) rfl ?_
      exact ⟨_, sl', rfl, hfull.out, S9.out⟩

set_option maxRecDepth 100000 in
set_option maxHeartbeats 1000000 in
theorem vlist_any {w0 w : World} {sl r : Hp} {va : Option Addr} {m c : Nat} {l : List Lf} (hS : Step w0 [] w (sl ++ r)) (hsl : IsLfs (.slice va m c) l sl) (hB : l.length ≤ 1000000) :
    Calls Tryz.prog 95 #[.slice va m c] w (ListPost w0 (sl ++ r) 5 ByteArray.empty 0 l) := by
  have S1 := (hS.alloc ZeroVal).permR (l2 := sl ++ ((w.heap.size, ZeroVal) :: r)) (perm_by fun f => by simp only [List.map_append, List.sum_append, List.map_cons, List.sum_cons]; omega)
  have hcopy := vcopy_list S1 hsl hB 5 ByteArray.empty 0
  unfold ansVal at hcopy
  replace hcopy := hid hcopy
  obtain ⟨a', c', hv, _, _⟩ := hsl.form
  clear hS S1 hsl
  go_enter Tryz.func95, Tryz.ntmps95
  go_wp2_with fail
  refine hcopy.out.mono ?_
  rintro e w2 ⟨v, sl2, rfl, hat, S2⟩
  obtain ⟨a2, cc, rfl, _, _⟩ := hat.form
  generalize w.heap.size = b at S2 ⊢
  have S3 := S2.permR (l2 := (b, ZeroVal) :: (sl2 ++ (sl ++ r))) (perm_by fun f => by simp only [List.map_append, List.sum_append, List.map_cons, List.sum_cons]; omega)
  obtain ⟨⟨c0, hc0⟩, ⟨c1, hc1⟩, ⟨c2, hc2⟩, ⟨c3, hc3⟩, ⟨c4, hc4⟩, ⟨c5, hc5⟩, fz, hlt2⟩ := cells6' S3.own.head
  have S9 := hid (((((((S3.set 0 (.int .i64 5)).set 1 (.string ByteArray.empty)).set 2 (.int .i64 0)).set 3 (.float .f64 0)).set 4 (.bool false)).set 5 (.slice a2 l.length cc)).less (List.sublist_cons_self _ _))
  replace hat := hid hat
  clear S2 S3 hcopy
  unfold ansVal
  go_wp2_with fail
  refine bodyPost_ret (v := ansVal 5 ByteArray.empty 0 (.slice a2 l.length cc)) (by simp [results, Tryz.results95, go_sem, ansVal, *] <;> rfl) rfl ?_
  exact ⟨_, sl2, rfl, hat.out, S9.out⟩

end Go.Proofs.YthfngplckbggpaaGreatDoor
