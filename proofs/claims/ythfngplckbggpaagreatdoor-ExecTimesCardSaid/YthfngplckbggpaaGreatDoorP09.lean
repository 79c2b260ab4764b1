/-
  item.Copy, item.Get.
  item.Get.
  slices.Delete of one field (in place, in a block that is owned).
  slices.Delete of one field: the walk.
-/
import Derived.Test.YthfngplckbggpaaGreatDoorP08
set_option linter.unusedVariables false
set_option linter.unusedSimpArgs false
namespace Go.Proofs.YthfngplckbggpaaGreatDoor
open Go Go.RowKit

set_option maxRecDepth 100000 in
set_option maxHeartbeats 1000000 in
theorem copy_any {w0 w : World} {l r sl : Hp} {v : Value} {fs : Fs} {kind : Int} {text : ByteArray} (hS : Step w0 l w (sl ++ r)) (hat : IsFields v fs sl) (hB : fs.length ≤ 1048576) :
    Calls Tryz.prog 35 #[itemVal kind text v] w fun e w' => ∃ v' sl', e = .returned (itemVal kind text v') ∧ IsFields v' fs sl' ∧ Step w0 l w' (sl' ++ (sl ++ r)) := by
  obtain ⟨a, c, rfl⟩ := hat.shape
  have S1 := (hS.alloc (.cells #[.int .i64 kind, .string text, .slice a fs.length c] 62)).alloc (.cells #[.int .i64 0, .string ByteArray.empty, .slice none 0 0] 62)
  rw [World.size_alloc] at S1
  have S2 := S1.permR (l2 := sl ++ ((w.heap.size, .cells #[.int .i64 kind, .string text, .slice a fs.length c] 62) :: (w.heap.size + 1, .cells #[.int .i64 0, .string ByteArray.empty, .slice none 0 0] 62) :: r)) (by
    refine (List.Perm.swap _ _ _).trans ?_
    exact List.perm_append_comm_assoc [_, _] sl r)
  have hcall := hid (clone_any S2 hat hB)
  clear S1 S2 hat hS
  go_enter Tryz.func35, Tryz.ntmps35
  unfold itemVal
  go_wp2_with fail
  refine hcall.out.mono ?_
  rintro e w2 ⟨v', sl', rfl, hat', S3⟩
  obtain ⟨a', c', rfl⟩ := hat'.shape
  have hown := S3.own
  have hx := hown.right.right.head
  have hy := hown.right.right.tail.head
  have c0 := cells_get hx 0
  have c1 := cells_get hx 1
  have c2 := cells_get hx 2
  have f2 : w2.frozen? ⟨w.heap.size, 2, none⟩ = false := cells_free hx 2
  have d0 := cells_get hy 0
  have d1 := cells_get hy 1
  have d2 := cells_get hy 2
  simp only [List.getElem?_toArray, List.getElem?_cons_succ, List.getElem?_cons_zero] at c0 c1 c2 d0 d1 d2
  have g0 : w2.frozen? ⟨w.heap.size + 1, 0, none⟩ = false := cells_free hy 0
  have g1 : w2.frozen? ⟨w.heap.size + 1, 1, none⟩ = false := cells_free hy 1
  have g2 : w2.frozen? ⟨w.heap.size + 1, 2, none⟩ = false := cells_free hy 2
  have P1 := S3.permR (l2 := (w.heap.size, .cells #[.int .i64 kind, .string text, .slice a fs.length c] 62) :: (w.heap.size + 1, .cells #[.int .i64 0, .string ByteArray.empty, .slice none 0 0] 62) :: (sl' ++ (sl ++ r)))
    ((List.Perm.append_left sl' (List.perm_append_comm_assoc sl [_, _] r)).trans (List.perm_append_comm_assoc sl' [_, _] (sl ++ r)))
  have P2 := (((((P1.set 2 (.slice a' fs.length c')).permR (List.Perm.swap _ _ _)).set 0 (.int .i64 kind)).set 1 (.string text)).set 2 (.slice a' fs.length c')).less ((List.sublist_cons_self _ _).trans (List.sublist_cons_self _ _))
  have hfin := hid P2
  clear hx hy hown hcall P1 P2 S3
  replace hat' := hid hat'
  go_wp2_with fail
  refine bodyPost_ret (v := itemVal kind text (.slice a' fs.length c')) (by simp [results, Tryz.results35, go_sem, itemVal, *]) rfl ?_
  exact ⟨_, sl', rfl, hat'.out, hfin.out⟩

end Go.Proofs.YthfngplckbggpaaGreatDoor

namespace Go.Proofs.YthfngplckbggpaaGreatDoor
open Go Go.RowKit

/-- What a field has. -/
def fget (fs : Fs) (name : ByteArray) : ByteArray := if has fs name then ((fs[pos fs name]?).map Prod.snd).getD ByteArray.empty else ByteArray.empty

theorem has_at {fs : Fs} {name : ByteArray} (h : has fs name = true) : ∃ f : ByteArray × ByteArray, fs[pos fs name]? = some f ∧ f.1 = name ∧ fget fs name = f.2 := by
  have h0 := h
  unfold has at h
  cases hf : fs[pos fs name]? with
  | none => rw [hf] at h; simp at h
  | some f =>
    rw [hf] at h
    refine ⟨f, rfl, ncmp_eq (by simpa using h), ?_⟩
    simp [fget, h0, hf]

set_option maxRecDepth 100000 in
theorem get_text_any {w0 w : World} {l r : Hp} {v : Value} {text name : ByteArray} (hS : Step w0 l w r) :
    Calls Tryz.prog 167 #[itemVal 1 text v, .string name] w fun e w' => e = .returned (.tuple #[.string ByteArray.empty, .bool false, .int .i64 91]) ∧ Step w0 l w' r := by
  have hfin := hid ((hS.alloc (.cells #[.int .i64 1, .string text, v] 62)).less (List.sublist_cons_self _ _))
  go_enter Tryz.func167, Tryz.ntmps167
  unfold itemVal
  go_wp2_with fail
  go_ret3
  exact ⟨rfl, hfin.out⟩

set_option maxRecDepth 100000 in
set_option maxHeartbeats 1000000 in
theorem get_any {w0 w : World} {l r sl : Hp} {v : Value} {fs : Fs} {kind : Int} {text : ByteArray} (hk : (kind == 1) = false) (hS : Step w0 l w (sl ++ r)) (hat : IsFields v fs sl) (hr : Rise fs) (hB : fs.length ≤ 1048576) (name : ByteArray) :
    Calls Tryz.prog 167 #[itemVal kind text v, .string name] w fun e w' =>
      e = .returned (.tuple #[.string (fget fs name), .bool (has fs name), .int .i64 0]) ∧ Step w0 l w' (sl ++ r) := by
  obtain ⟨a, c, rfl⟩ := hat.shape
  have S1 := hS.alloc (.cells #[.int .i64 kind, .string text, .slice a fs.length c] 62)
  have S2 := S1.permR (l2 := sl ++ ((w.heap.size, .cells #[.int .i64 kind, .string text, .slice a fs.length c] 62) :: r)) List.perm_middle.symm
  have hcall := hid (itat_any (kind := kind) (text := text) S2 hat hr hB name)
  have hat' := hid hat
  clear hS S1 S2 hr hat
  go_enter Tryz.func167, Tryz.ntmps167
  unfold itemVal
  go_wp2_with fail
  refine hcall.out.mono ?_
  rintro e w2 ⟨rfl, S3⟩
  clear hcall
  have hfin := hid (S3.less ((List.sublist_cons_self _ _).append_left sl))
  have hx := S3.own.right.head
  have c2 := cells_get hx 2
  simp only [List.getElem?_toArray, List.getElem?_cons_succ, List.getElem?_cons_zero] at c2
  cases hh : has fs name with
  | false =>
    have e : Hid (fget fs name = ByteArray.empty) := hid (by simp [fget, hh])
    replace hh := hid hh
    clear hx
    replace S3 := hid S3
    go_wp2_with fail
    go_ret3
    rw [e.out, hh.out]
    exact ⟨rfl, hfin.out⟩
  | true =>
    obtain ⟨f, hf, _, hg⟩ := has_at hh
    have hp := (List.getElem?_eq_some_iff.1 hf).1
    obtain ⟨b, cap, rest, hsl, hc, hc2, hl, hrest⟩ := hat'.out.sl.view (by omega)
    injection hsl with h1 h2 h3
    subst h1 h3 hl
    have hb := S3.own.head
    have hcm := fsCells_name fs _ f hf
    have hlen := fsCells_len fs
    have b1 : w2.cell? ⟨b, pos fs name * 2 + 1, none⟩ = some (.string f.2) := by
      rw [cells_get hb, List.getElem?_toArray, List.getElem?_append_left (by omega), Nat.mul_comm, hcm.2]
    generalize pos fs name = k at hp b1 ⊢
    replace hh := hid hh
    replace hg := hid hg
    clear hx hb hcm hf hlen
    replace S3 := hid S3
    go_wp2_with fail
    go_ret3
    rw [hg.out, hh.out]
    exact ⟨rfl, hfin.out⟩

end Go.Proofs.YthfngplckbggpaaGreatDoor

namespace Go.Proofs.YthfngplckbggpaaGreatDoor
open Go Go.RowKit

/-- The walk's step at a clear whose run is known. -/
theorem wpList_clear_run {P : Program} {ops : Array Oper} {rest : List Oper} {o : Oper} {a : Act} {Q : Exit → Act → World → Prop} {w w' : World} {v' : Value} (hgd : o.guard = none) (s : Operand) (t : TypeId)
    (ho : o.op = .call { callee := .builtin .clear, args := #[s], argTypes := #[t] }) (v : Value) (hs : a.eval s = v)
    (hrun : (Builtin.clear_ #[t] o.type #[v]).run P w = .ok v' w') (h : wpList P ops Q rest (a.put o.dst v') w') : wpList P ops Q (o :: rest) a w := by
  refine wpList_plain hgd fun K hK => ?_
  unfold Oper.wp execOp
  simp only [ho, resolve, invoke, builtin, Sem.run_bind, Sem.run_pure, Result.andThen_ok, List.map_toArray, List.map_cons, List.map_nil, hs, hrun]
  exact hK _ _ h

theorem run_clear_fields (w : World) (g off n c ty : Nat) (xs ys : List Value) (u1 u2 : Value) (hn : n = 1) (hg : w.heap[g]? = some (.cells (xs ++ u1 :: u2 :: ys).toArray 96 (0, 0))) (hoff : off = xs.length) :
    (Builtin.clear_ #[60] ty #[.slice (some ⟨g, off, none⟩) n c]).run Tryz.prog w =
      .ok (.tuple #[]) (w.setRow g (xs ++ .string ByteArray.empty :: .string ByteArray.empty :: ys).toArray) := by
  obtain ⟨i, hi, hz, hsz, hby⟩ := info_parts fieldInfo
  subst hoff hn
  have hst := run_storeCells_at Tryz.prog g xs.length 96 [.string ByteArray.empty, .string ByteArray.empty] 0 _ w hg (by simp) (by intro u hu; simp at hu; subst hu; rfl)
  simp only [Nat.add_zero] at hst
  have hzc : (Builtin.zeroCells (Value.agg #[.string ByteArray.empty, .string ByteArray.empty]).cells 1).toList = [.string ByteArray.empty, .string ByteArray.empty] := by kernel_rfl
  have e1 : (List.take xs.length (xs ++ u1 :: u2 :: ys) ++ [Value.string ByteArray.empty, .string ByteArray.empty] ++ List.drop (xs.length + [Value.string ByteArray.empty, .string ByteArray.empty].length) (xs ++ u1 :: u2 :: ys)) = xs ++ .string ByteArray.empty :: .string ByteArray.empty :: ys := by
    simp [List.take_append, List.drop_append]
  rw [e1] at hst
  simp [Builtin.clear_, Sem.run_bind, run_underlying Tryz.underlying60, zeroValue, typeInfo, hi, hz, hzc, hst]

end Go.Proofs.YthfngplckbggpaaGreatDoor

namespace Go.Proofs.YthfngplckbggpaaGreatDoor
open Go Go.RowKit

theorem two_of_len {l : List Value} (h : l.length = 2) : ∃ a b, l = [a, b] := by
  match l, h with
  | [a, b], _ => exact ⟨a, b, rfl⟩

theorem run_append_shift (W : World) (g cap : Nat) (A B : Fs) (f : ByteArray × ByteArray) (rest : List Value) (c : Nat) (a : Addr) (ha : 0 < B.length → a = ⟨g, (A.length + 1) * 2, none⟩) (hg : W.heap[g]? = some (.cells (fsCells (A ++ f :: B) ++ rest).toArray 96 (0, 0))) (hc : A.length + 1 + B.length ≤ cap) :
    ∃ u1 u2, (Builtin.append_ #[60, 60] 60 #[.slice (some ⟨g, 0, none⟩) A.length cap, .slice (some a) B.length c]).run Tryz.prog W =
      .ok (.slice (some ⟨g, 0, none⟩) (A.length + B.length) cap) (W.setRow g (fsCells (A ++ B) ++ u1 :: u2 :: rest).toArray) := by
  obtain ⟨i, hi, hz, hsz, hby⟩ := info_parts fieldInfo
  have hlA := fsCells_len A
  have hlB := fsCells_len B
  have hcur : fsCells (A ++ f :: B) ++ rest = fsCells A ++ (([Value.string f.1, .string f.2] ++ fsCells B) ++ rest) := by simp [fsCells_append, fsCells]
  have hnews : ∀ (j : Nat) (u : Value), (fsCells B)[j]? = some u → W.cell? (a.add j) = some u := by
    intro j u hu
    have hj : j < (fsCells B).length := (List.getElem?_eq_some_iff.1 hu).1
    rw [ha (by omega)]
    have hadd : (⟨g, (A.length + 1) * 2, none⟩ : Addr).add j = ⟨g, (A.length + 1) * 2 + j, none⟩ := by unfold Addr.add; split <;> simp_all
    rw [hadd, cells_get hg]
    rw [hcur, List.getElem?_toArray, List.getElem?_append_right (by omega)]
    have e : (A.length + 1) * 2 + j - (fsCells A).length = j + 2 := by omega
    rw [e, List.getElem?_append_left (by simp; omega)]
    simpa using hu
  have hrun := run_append_room (P := Tryz.prog) (w := W) 60 60 96 i Tryz.underlying60 hi g A.length cap _ hg a B.length c (fsCells B) (by rw [hsz]; exact hlB) hnews (fsCells_one B) (by omega)
    (by rw [hsz]; simp only [List.size_toArray, hcur, List.length_append, List.length_cons, List.length_nil]; omega)
  obtain ⟨u1, u2, hu⟩ := two_of_len (l := ([Value.string f.1, .string f.2] ++ fsCells B).drop (fsCells B).length) (by simp only [List.length_drop, List.length_append, List.length_cons, List.length_nil]; omega)
  refine ⟨u1, u2, ?_⟩
  have e1 : (fsCells A ++ (([Value.string f.1, .string f.2] ++ fsCells B) ++ rest)).take (A.length * 2) = fsCells A := by rw [← hlA]; simp
  have e2 : (fsCells A ++ (([Value.string f.1, .string f.2] ++ fsCells B) ++ rest)).drop (A.length * 2 + (fsCells B).length) = u1 :: u2 :: rest := by
    rw [← hlA, List.drop_append, List.drop_eq_nil_of_le (by omega), Nat.add_sub_cancel_left, List.nil_append, List.drop_append_of_le_length (by simp only [List.length_append, List.length_cons, List.length_nil]; omega), hu]
    rfl
  have e3 : (fsCells (A ++ f :: B) ++ rest).toArray.toList.take (A.length * i.size) ++ fsCells B ++ (fsCells (A ++ f :: B) ++ rest).toArray.toList.drop (A.length * i.size + (fsCells B).length) = fsCells (A ++ B) ++ u1 :: u2 :: rest := by
    rw [hsz, hcur]
    simp only []
    rw [e1, e2, fsCells_append]
  rw [e3] at hrun
  exact hrun

set_option maxRecDepth 100000 in
set_option maxHeartbeats 1000000 in
theorem delete_any {w0 w : World} {l r : Hp} {g cap : Nat} {A B : Fs} {f : ByteArray × ByteArray} {rest : List Value} (hS : Step w0 l w ((g, .cells (fsCells (A ++ f :: B) ++ rest).toArray 96 (0, 0)) :: r)) (hc : A.length + 1 + B.length ≤ cap) (hm : cap ≤ maxLen) :
    Calls Tryz.prog 207 #[.slice (some ⟨g, 0, none⟩) (A.length + 1 + B.length) cap, .int .i64 A.length, .int .i64 (A.length + 1)] w fun e w' =>
      e = .returned (.slice (some ⟨g, 0, none⟩) (A.length + B.length) cap) ∧ Step w0 l w' ((g, .cells (fsCells (A ++ B) ++ .string ByteArray.empty :: .string ByteArray.empty :: rest).toArray 96 (0, 0)) :: r) := by
  have hm2 : cap ≤ 9223372036854775807 := by unfold maxLen at hm; omega
  have ha1 : A.length ≤ cap := by omega
  have hi0 : (0 : Int) ≤ (A.length : Int) + 1 := by omega
  have hi1 : (A.length : Int) + 1 ≤ (A.length : Int) + 1 + (B.length : Int) := by omega
  have hi2 : ¬ cap = A.length + B.length := by omega
  have hfin : ∀ (W : World) (u1 u2 : Value), W.heap = (w.drew.setRow g (fsCells (A ++ B) ++ u1 :: u2 :: rest).toArray).heap → W.os = w.os → W.output = w.output →
      ∃ W', (∀ n c off ty, n = 1 → off = (A.length + B.length) * 2 → (Builtin.clear_ #[60] ty #[.slice (some ⟨g, off, none⟩) n c]).run Tryz.prog W = .ok (.tuple #[]) W') ∧
        Step w0 l W' ((g, .cells (fsCells (A ++ B) ++ .string ByteArray.empty :: .string ByteArray.empty :: rest).toArray 96 (0, 0)) :: r) := by
    intro W u1 u2 hh ho hp
    have h1 : Step w0 l W ((g, .cells (fsCells (A ++ B) ++ u1 :: u2 :: rest).toArray 96 (0, 0)) :: r) := by
      refine (Step.put (w2 := w.drew.setRow g (fsCells (A ++ B) ++ u1 :: u2 :: rest).toArray) hS.drew (by simp [World.setRow]) (setRow_heap w.drew g _ _ _ _ hS.drew.own.head) (fun k hk => setRow_other w.drew g k _ hk) rfl rfl).heap hh ho hp
    refine ⟨W.setRow g (fsCells (A ++ B) ++ .string ByteArray.empty :: .string ByteArray.empty :: rest).toArray, ?_, ?_⟩
    · intro n c off ty hn hoff
      refine run_clear_fields W g off n c ty _ rest u1 u2 hn h1.own.head ?_
      rw [hoff, fsCells_len, List.length_append]
    · exact Step.put h1 (by simp [World.setRow]) (setRow_heap W g _ _ _ _ h1.own.head) (fun k hk => setRow_other W g k _ hk) rfl rfl
  by_cases hcap : cap = A.length + 1
  · obtain rfl : B = [] := List.length_eq_zero_iff.1 (by omega)
    subst hcap
    obtain ⟨u1, u2, hrun⟩ := run_append_shift w.drew g (A.length + 1) A [] f rest 0 ⟨g, 0, none⟩ (fun h => absurd h (by simp)) hS.drew.own.head hc
    obtain ⟨W', hclr, S'⟩ := hfin _ u1 u2 rfl rfl rfl
    have hclr' := hclr 1 1 (A.length * 2) 0 rfl (by simp)
    simp only [List.length_nil, Nat.add_zero, List.append_nil] at hrun hclr' S' ⊢
    clear hi0 hi1 hi2 hc
    have hi0 : (0 : Int) ≤ (A.length : Int) + 1 := by omega
    have hi2 : ¬ A.length + 1 = A.length := by omega
    have hi3 : (A.length : Int) ≤ (A.length : Int) + 1 := by omega
    have hi4 : (0 : Int) ≤ (A.length : Int) := by omega
    replace hrun := hid hrun
    replace S' := hid S'
    clear hfin hclr hS
    go_enter Tryz.func207, Tryz.ntmps207
    go_wp2_with fail
    go_still_tail 6, (by kernel_rfl)
    go_wp2_with (at_builtin; refine wpList_append_run rfl _ _ _ _ rfl _ _ rfl rfl hrun.out ?_)
    go_ret
    exact ⟨rfl, S'.out⟩
  · obtain ⟨u1, u2, hrun⟩ := run_append_shift w.drew g cap A B f rest (cap - (A.length + 1)) ⟨g, (A.length + 1) * 2, none⟩ (fun _ => rfl) hS.drew.own.head hc
    obtain ⟨W', hclr, S'⟩ := hfin _ u1 u2 rfl rfl rfl
    have hclr' := hclr (A.length + 1 + B.length - (A.length + B.length)) (cap - (A.length + B.length)) ((A.length + B.length) * 2) 0 (by omega) rfl
    replace hrun := hid hrun
    replace S' := hid S'
    clear hfin hclr hS
    go_enter Tryz.func207, Tryz.ntmps207
    go_wp2_with fail
    go_still_tail 6, (by kernel_rfl)
    go_wp2_with (at_builtin; refine wpList_append_run rfl _ _ _ _ rfl _ _ rfl rfl hrun.out ?_)
    go_ret
    exact ⟨rfl, S'.out⟩

end Go.Proofs.YthfngplckbggpaaGreatDoor
