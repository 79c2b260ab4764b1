/-
  fields: job.all (HGETALL).
-/
import Derived.Test.YtkmjlpmepggciaaGreatDoorPFDoes
set_option linter.unusedVariables false
set_option linter.unusedSimpArgs false
namespace Go.Proofs.YtkmjlpmepggciaaGreatDoor
open Go Go.RowKit

/-- All fields and texts, one behind the other. -/
def allOf : Fs → List Lf
  | [] => []
  | f :: fs => lfText f.1 :: lfText f.2 :: allOf fs
theorem allOf_len (fs : Fs) : (allOf fs).length = 2 * fs.length := by
  induction fs with
  | nil => rfl
  | cons f fs ih => simp only [allOf, List.length_cons, ih]; omega
theorem allOf_append (a b : Fs) : allOf (a ++ b) = allOf a ++ allOf b := by
  induction a with
  | nil => rfl
  | cons f a ih => simp only [List.cons_append, allOf, ih]

abbrev Lf2Obj (a b : Lf) : Obj := .cells #[.int .i64 a.kind, .string a.text, .int .i64 a.n, .float .f64 0, .bool false, .slice none 0 0, .int .i64 b.kind, .string b.text, .int .i64 b.n, .float .f64 0, .bool false, .slice none 0 0] 29 (0, 0)
theorem push_lf2 {w0 w : World} {sl r : Hp} {va : Option Addr} {k c : Nat} {l : List Lf} {a b : Lf} {nb : Nat} (hS : Step w0 [] w (sl ++ r)) (hsl : IsLfs (.slice va k c) l sl) (hk : l.length = k) (hB : k ≤ 1000000000) (hm : (nb, Lf2Obj a b) ∈ r) :
    ∃ va' c' w' sl', (Builtin.append_ #[27, 27] 27 #[.slice va k c, .slice (some ⟨nb, 0, none⟩) 2 2]).run Tryz.prog w = .ok (.slice va' (k + 2) c') w' ∧ IsLfs (.slice va' (k + 2) c') (l ++ [a, b]) sl' ∧ Step w0 [] w' (sl' ++ r) := by
  have hh := hS.own.right.at_ _ hm
  obtain ⟨v', w', sl', hrun, hsl', S', _⟩ := run_append (P := Tryz.prog) (ty := 27) Tryz.underlying27 Tryz.underlying27 valInfo rfl (by decide) hS hsl
    ⟨nb, 0, none⟩ 2 2 (lfCell a ++ lfCell b) rfl (by
      intro j u hu
      rw [addr_add, Nat.zero_add, cells_get hh, ← hu]
      show (lfCell a ++ lfCell b).toArray[j]? = (lfCell a ++ lfCell b)[j]?
      rw [List.getElem?_toArray]) (by simp [lfCell, Value.oneCell']) (by omega) (by rw [hk]; omega) (by rw [hk]; unfold maxLen; omega)
  obtain ⟨a', c', rfl, _, _⟩ := hsl'.form
  rw [hk] at hrun hsl'
  refine ⟨a', c', w', sl', hrun, ?_, S'⟩
  have e : lfCells (l ++ [a, b]) = lfCells l ++ (lfCell a ++ lfCell b) := by simp [lfCells]
  show SliceHp 6 _ _ (l ++ [a, b]).length (lfCells (l ++ [a, b])) sl'
  rw [List.length_append, e, hk]
  exact hsl'

/-- An append whose run is known, in a region whose order is drawn. -/
theorem step_append_run {P : Program} {ops : Array Oper} {o : Oper} {a : Act} {K : Act → World → Prop} {Q : Exit → Act → World → Prop} {E : Prop} {w w' : World} {v' : Value} (hgd : o.guard = none) (s x : Operand) (t t2 : TypeId)
    (ho : o.op = .call { callee := .builtin .append, args := #[s, x], argTypes := #[t, t2] }) (v vx : Value) (hs : a.eval s = v) (hx : a.eval x = vx)
    (hrun : (Builtin.append_ #[t, t2] o.type #[v, vx]).run P w = .ok v' w') (h : K (a.put o.dst v') w') :
    if Region.wanted o (yielded ops a.tmps) = true then Oper.wp P o a w K Q else E := by
  have hw : Region.wanted o (yielded ops a.tmps) = true := by simp [Region.wanted, hgd]
  rw [if_pos hw]
  unfold Oper.wp execOp
  simp only [ho, resolve, invoke, builtin, Sem.run_bind, Sem.run_pure, Result.andThen_ok, List.map_toArray, List.map_cons, List.map_nil, hs, hx, hrun]
  exact h

set_option maxRecDepth 100000 in
set_option maxHeartbeats 2000000 in
theorem fall_any {w0 w : World} {r sl : Hp} {v : Value} {fs : Fs} (kind : Int) (text : ByteArray) (hS : Step w0 [] w (sl ++ r)) (hat : IsFields v fs sl) (hB : fs.length ≤ 256) (sb : Nat) (now : Int) (key : ByteArray) (ga : Option Addr) (n cap : Nat) :
    Calls Tryz.prog 96 #[fjobVal sb kind text v now key (.slice ga n cap)] w (ListPost w0 (sl ++ r) 12 ByteArray.empty 0 (allOf fs)) := by
  obtain ⟨fa, fc, rfl⟩ := hat.shape
  obtain ⟨nf, hnf⟩ : ∃ nf, nf = fs.length := ⟨_, rfl⟩
  rw [← hnf] at hat ⊢
  have hnf2 : nf ≤ 256 := by omega
  replace hnf := hid hnf
  have S1 := ((hS.alloc (FJobObj sb kind text (.slice fa nf fc) now key (.slice ga n cap))).alloc ZeroVal).alloc (.cells #[.int .i64 12, .string ByteArray.empty, .int .i64 0, .float .f64 0, .bool false, .slice none 0 0] 29)
  simp only [World.size_alloc] at S1
  replace S1 := hid S1
  replace hat := hid hat
  clear hS
  go_enter Tryz.func96, Tryz.ntmps96
  unfold fjobVal
  go_upto_region 2 with fail
  generalize hw1 : ((w.alloc _).alloc _).alloc _ = w1
  replace S1 : Step w0 [] w1 _ := hw1 ▸ S1.out
  clear hw1
  generalize w.heap.size = b at S1 ⊢
  obtain ⟨ob, hob⟩ : ∃ ob, ob = b + 1 + 1 := ⟨_, rfl⟩
  rw [← hob] at S1 ⊢
  clear hob
  obtain ⟨R, hR⟩ : ∃ R : Hp, R = (b + 1, ZeroVal) :: (b, FJobObj sb kind text (.slice fa nf fc) now key (.slice ga n cap)) :: r := ⟨_, rfl⟩
  have S2 : Hid (Step w0 [] w1 ((ob, .cells #[.int .i64 12, .string ByteArray.empty, .int .i64 0, .float .f64 0, .bool false, .slice none 0 0] 29 (0, 0)) :: ([] ++ (sl ++ R)))) := hid (S1.permR (perm_by fun f => by
    rw [hR]; simp only [List.map_append, List.sum_append, List.map_cons, List.sum_cons, List.map_nil, List.sum_nil]; omega))
  have hjm : (b, FJobObj sb kind text (.slice fa nf fc) now key (.slice ga n cap)) ∈ R := by rw [hR]; simp
  have c3 := (fjobAt (S2.out.own.tail.right.right.at_ _ hjm)).c3
  clear S1
  replace hR := hid hR
  go_wp2_with fail
  clear c3 hjm
  go_loopw [5, 11] (fun s5 s11 wr => ∃ (k m : Nat) (va : Option Addr) (c : Nat) (vl : Hp), s11 = .int .i64 k ∧ k ≤ nf ∧ Hid (m = 2 * k) ∧ Hid (IsLfs (.slice va m c) (allOf (fs.take k)) vl) ∧ Hid (Step w0 [] wr ((ob, .cells #[.int .i64 12, .string ByteArray.empty, .int .i64 0, .float .f64 0, .bool false, .slice va m c] 29 (0, 0)) :: (vl ++ (sl ++ R))))) (fun s5 s11 wr => (nf - intOf s11).toNat)
  case atStart => exact ⟨0, 0, none, 0, [], rfl, Nat.zero_le _, hid rfl, hid .nil, S2⟩
  case round =>
    obtain ⟨k, m, va, c, vl, rfl, hk, hm, hvl, S3⟩ := hrel
    clear S2
    by_cases hlt : k < nf
    · obtain ⟨f, hfk⟩ : ∃ f, fs[k]? = some f := ⟨fs[k]'(by rw [← hnf.out]; exact hlt), List.getElem?_eq_getElem _⟩
      have htk : Hid (fs.take (k + 1) = fs.take k ++ [f]) := hid (by rw [List.take_add_one, hfk]; rfl)
      have hat2 := hat.out.sl
      rw [← hnf.out] at hat2
      obtain ⟨g, cap2, rest, hfv, _, _, rfl, _⟩ := hat2.view (by omega)
      simp only [Value.slice.injEq] at hfv
      obtain ⟨rfl, _, rfl⟩ := hfv
      have hlt3 : (k : Int) < (nf : Int) := by omega
      have hfb := S3.out.own.tail.right.left.head
      have hcm := fsCells_name fs k f hfk
      have hlen := fsCells_len fs
      have b0 : wr.cell? ⟨g, k * 2, none⟩ = some (.string f.1) := by
        rw [cells_get hfb, List.getElem?_toArray, List.getElem?_append_left (by have := hnf.out; omega), Nat.mul_comm, hcm.1]
      have b1 : wr.cell? ⟨g, k * 2 + 1, none⟩ = some (.string f.2) := by
        rw [cells_get hfb, List.getElem?_toArray, List.getElem?_append_left (by have := hnf.out; omega), Nat.mul_comm, hcm.2]
      clear hfb hcm hlen hat2
      replace hfk := hid hfk
      go_upto_region 5 with fail
      have S4 := S3.out.alloc (.cells #[.string f.1, .string f.2] 147)
      generalize hw : wr.alloc _ = w2 at S4 ⊢
      clear hw S3 b0 b1
      generalize wr.heap.size = fb at S4 ⊢
      obtain ⟨R2, hR2⟩ : ∃ R2 : Hp, R2 = (fb, .cells #[.string f.1, .string f.2] 147 (0, 0)) :: (ob, .cells #[.int .i64 12, .string ByteArray.empty, .int .i64 0, .float .f64 0, .bool false, .slice va m c] 29 (0, 0)) :: ([(g, .cells (fsCells fs ++ rest).toArray 147 (0, 0))] ++ R) := ⟨_, rfl⟩
      have S5 : Step w0 [] w2 (vl ++ R2) := S4.permR (perm_by fun f => by
        rw [hR2]; simp only [List.map_append, List.sum_append, List.map_cons, List.sum_cons, List.map_nil, List.sum_nil]; omega)
      have hfm : (fb, .cells #[.string f.1, .string f.2] 147 (0, 0)) ∈ R2 := by rw [hR2]; simp
      have hmm : (ob, .cells #[.int .i64 12, .string ByteArray.empty, .int .i64 0, .float .f64 0, .bool false, .slice va m c] 29 (0, 0)) ∈ R2 := by rw [hR2]; simp
      have hs1 : Hid (Step w0 [] w2.drew (vl ++ R2)) := hid S5.drew
      have hcl : Hid (∀ (w' : World) (x : Hp), Step w0 [] w' (x ++ R2) → w'.cell? ⟨fb, 0, none⟩ = some (.string f.1) ∧ w'.cell? ⟨fb, 1, none⟩ = some (.string f.2) ∧ w'.cell? ⟨ob, 5, none⟩ = some (.slice va m c)) := hid fun w' x h => by
        have hf := h.own.right.at_ (fb, .cells #[.string f.1, .string f.2] 147 (0, 0)) hfm
        exact ⟨cells_get hf 0, cells_get hf 1, cells_get (h.own.right.at_ (ob, .cells #[.int .i64 12, .string ByteArray.empty, .int .i64 0, .float .f64 0, .bool false, .slice va m c] 29 (0, 0)) hmm) 5⟩
      have g0 := (hcl.out _ _ hs1.out).1
      have g1 := (hcl.out _ _ hs1.out).2.1
      have g2 := (hcl.out _ _ hs1.out).2.2
      have hfin : Hid (∀ (w7 : World) (va3 : Option Addr) (c3 : Nat) (vl3 : Hp), Step w0 [] w7 (vl3 ++ R2) → Step w0 [] (w7.setCell ⟨ob, 5, none⟩ (.slice va3 (m + 2) c3)) ((ob, .cells #[.int .i64 12, .string ByteArray.empty, .int .i64 0, .float .f64 0, .bool false, .slice va3 (m + 2) c3] 29 (0, 0)) :: (vl3 ++ ([(g, .cells (fsCells fs ++ rest).toArray 147 (0, 0))] ++ R)))) := hid fun w7 va3 c3 vl3 h => by
        have h5 := (h.pick (l2 := (ob, .cells #[.int .i64 12, .string ByteArray.empty, .int .i64 0, .float .f64 0, .bool false, .slice va m c] 29 (0, 0)) :: (vl3 ++ ([(g, .cells (fsCells fs ++ rest).toArray 147 (0, 0))] ++ R))) (m := [(fb, .cells #[.string f.1, .string f.2] 147 (0, 0))]) (perm_by fun f => by
        rw [hR2]; simp only [List.map_append, List.sum_append, List.map_cons, List.sum_cons, List.map_nil, List.sum_nil]; omega)).set 5 (.slice va3 (m + 2) c3)
        exact h5
      have htx : ∀ (w' : World) (t : ByteArray) (L : Hp), Hid (Step w0 [] w' L → _) := fun w' t L => hid fun hw => vtext_any hw t
      unfold ansVal at htx
      have hpush : Hid (∀ w6 : World, Step w0 [] w6 (vl ++ R2) → ∃ va' c' w' sl', (Builtin.append_ #[27, 27] 27 #[.slice va m c, .slice (some ⟨w6.heap.size, 0, none⟩) 2 2]).run Tryz.prog (w6.alloc (.cells #[.int .i64 4, .string f.1, .int .i64 0, .float .f64 0, .bool false, .slice none 0 0, .int .i64 4, .string f.2, .int .i64 0, .float .f64 0, .bool false, .slice none 0 0] 29)) = .ok (.slice va' (m + 2) c') w' ∧ IsLfs (.slice va' (m + 2) c') (allOf (fs.take (k + 1))) sl' ∧ Step w0 [] w' (sl' ++ R2)) := hid fun w6 h6 => by
        have S8 : Step w0 [] _ ((w6.heap.size, Lf2Obj (lfText f.1) (lfText f.2)) :: _) := h6.alloc (.cells #[.int .i64 4, .string f.1, .int .i64 0, .float .f64 0, .bool false, .slice none 0 0, .int .i64 4, .string f.2, .int .i64 0, .float .f64 0, .bool false, .slice none 0 0] 29)
        obtain ⟨va3, c3, w7, vl3, hrun, hvl3, S9⟩ := push_lf2 (nb := w6.heap.size) (a := lfText f.1) (b := lfText f.2) (sl := vl) (r := (w6.heap.size, Lf2Obj (lfText f.1) (lfText f.2)) :: R2) (S8.permR (perm_by fun f => by
          simp only [List.map_append, List.sum_append, List.map_cons, List.sum_cons]; omega)) hvl.out (by rw [allOf_len, List.length_take, ← hnf.out]; have := hm.out; omega) (by have := hm.out; omega) (by simp)
        exact ⟨va3, c3, w7, vl3, hrun, by rw [htk.out, allOf_append]; exact hvl3, S9.pick (m := [(w6.heap.size, Lf2Obj (lfText f.1) (lfText f.2))]) (perm_by fun f => by
          simp only [List.map_append, List.sum_append, List.map_cons, List.sum_cons, List.map_nil, List.sum_nil]; omega)⟩
      have hm2 : Hid (m + 2 = 2 * (k + 1)) := hid (by have := hm.out; omega)
      clear S4 S5 hvl
      go_region_law (first | (refine step_append_run rfl _ _ _ _ rfl _ _ rfl rfl hrun.out ?_) | (go_simp; go_at_call_of 108 (Value.string f.1); refine ((htx _ f.1 _).out hs1.out).mono ?_; rintro e w5 ⟨rfl, S5⟩; obtain ⟨p0, p1, p2⟩ := hcl.out _ _ S5; replace S5 := hid S5; go_wp2_with fail) | (go_simp; go_at_call_of 108 (Value.string f.2); refine ((htx _ f.2 _).out S5.out).mono ?_; rintro e w6 ⟨rfl, S6⟩; obtain ⟨q0, q1, q2⟩ := hcl.out _ _ S6; have g6a : ∀ o : Obj, (w6.alloc o).cell? ⟨ob, 5, none⟩ = some (.slice va m c) := fun o => (hcl.out _ ((w6.heap.size, o) :: vl) (S6.alloc o)).2.2; obtain ⟨va3, c3, w7, vl3, hrun, hvl3, S9⟩ := hpush.out w6 S6; have g7 := (hcl.out _ _ S9).2.2; have hvl4 := hid hvl3; have fz : ∀ j, w7.frozen? ⟨ob, j, none⟩ = false := fun j => cells_free (S9.own.right.at_ (ob, .cells #[.int .i64 12, .string ByteArray.empty, .int .i64 0, .float .f64 0, .bool false, .slice va m c] 29 (0, 0)) hmm) j; have hlt2 := block_lt (S9.own.right.at_ (ob, .cells #[.int .i64 12, .string ByteArray.empty, .int .i64 0, .float .f64 0, .bool false, .slice va m c] 29 (0, 0)) hmm); have S10 := hid (hfin.out _ va3 c3 _ S9); replace S6 := hid S6; replace S9 := hid S9; replace hrun := hid hrun; clear hvl3; go_wp2_with fail))
      all_goals (
        go_wp2_with fail
        go_roundw
        case rel => exact ⟨k + 1, m + 2, va3, c3, vl3, rfl, hlt, hm2, hvl4, S10⟩
        case measure => simp [intOf]; omega)
    · obtain rfl : k = nf := by omega
      have hfull : fs.take k = fs := by rw [hnf.out, List.take_length]
      rw [hfull] at hvl
      have S4 : Step w0 [] wr ((b + 1, ZeroVal) :: (vl ++ (sl ++ r) ++ [(ob, .cells #[.int .i64 12, .string ByteArray.empty, .int .i64 0, .float .f64 0, .bool false, .slice va m c] 29 (0, 0)), (b, FJobObj sb kind text (.slice fa k fc) now key (.slice ga n cap))])) := S3.out.permR (perm_by fun f => by
        rw [hR.out]; simp only [List.map_append, List.sum_append, List.map_cons, List.sum_cons, List.map_nil, List.sum_nil]; omega)
      obtain ⟨o0, o1, o2, o3, o4, o5⟩ : wr.cell? ⟨ob, 0, none⟩ = some (.int .i64 12) ∧ wr.cell? ⟨ob, 1, none⟩ = some (.string ByteArray.empty) ∧ wr.cell? ⟨ob, 2, none⟩ = some (.int .i64 0) ∧ wr.cell? ⟨ob, 3, none⟩ = some (.float .f64 0) ∧ wr.cell? ⟨ob, 4, none⟩ = some (.bool false) ∧ wr.cell? ⟨ob, 5, none⟩ = some (.slice va m c) := ⟨cells_get S3.out.own.head 0, cells_get S3.out.own.head 1, cells_get S3.out.own.head 2, cells_get S3.out.own.head 3, cells_get S3.out.own.head 4, cells_get S3.out.own.head 5⟩
      obtain ⟨⟨z0, hz0⟩, ⟨z1, hz1⟩, ⟨z2, hz2⟩, ⟨z3, hz3⟩, ⟨z4, hz4⟩, ⟨z5, hz5⟩, fz, hlt2⟩ := cells6' S4.own.head
      have S9 := hid ((((((((S4.set 0 (.int .i64 12)).set 1 (.string ByteArray.empty)).set 2 (.int .i64 0)).set 3 (.float .f64 0)).set 4 (.bool false)).set 5 (.slice va m c)).less (List.sublist_cons_self _ _)).less (List.sublist_append_left _ _))
      clear S3 S4
      go_wp2_with fail
      refine bodyPost_ret (v := ansVal 12 ByteArray.empty 0 (.slice va m c)) (by simp [results, Tryz.results96, go_sem, ansVal, *] <;> rfl) rfl ?_
      exact ⟨_, vl, rfl, hvl.out, S9.out⟩

end Go.Proofs.YtkmjlpmepggciaaGreatDoor
