/-
  nearhandlaw18: TextsNames, the walk (printed by gen_law.py).
-/
import Derived.Test.YtkmjlpmepggciaaGreatDoorPOne
set_option linter.unusedVariables false
set_option linter.unusedSimpArgs false
namespace Go.Proofs.YtkmjlpmepggciaaGreatDoor
open Go Go.RowKit

def lfWrong : Lf := ⟨2, ⟨#[69, 82, 82, 32, 118, 97, 108, 117, 101, 32, 105, 115, 32, 110, 111, 116, 32, 97, 110, 32, 105, 110, 116, 101, 103, 101, 114, 32, 111, 114, 32, 111, 117, 116, 32, 111, 102, 32, 114, 97, 110, 103, 101]⟩, 0⟩
def N1 : St := (tSet (newSt 10000) 10 kk ⟨#[118]⟩ [⟨#[112, 120]⟩, ⟨#[53]⟩, ⟨#[110, 120]⟩]).1
def N2 : St := (tSet N1 11 kk ⟨#[119]⟩ [⟨#[78, 88]⟩, ⟨#[71, 69, 84]⟩]).1
def N3 : St := (tAddText N2 11 kk ⟨#[49]⟩ false).1
def N4 : St := (tGet N3 15 kk).1
theorem names_e1 : tSet (newSt 10000) 10 kk ⟨#[118]⟩ [⟨#[112, 120]⟩, ⟨#[53]⟩, ⟨#[110, 120]⟩] = (N1, lfOk) := by kernel_rfl
theorem names_e2 : tSet N1 11 kk ⟨#[119]⟩ [⟨#[78, 88]⟩, ⟨#[71, 69, 84]⟩] = (N2, lfText ⟨#[118]⟩) := by kernel_rfl
theorem names_e3 : tAddText N2 11 kk ⟨#[49]⟩ false = (N3, lfWrong) := by kernel_rfl
theorem names_e4 : tGet N3 15 kk = (N4, lfNil) := by kernel_rfl
theorem names_c1 : wcheck [⟨#[115, 101, 116]⟩, ⟨#[107]⟩, ⟨#[118]⟩, ⟨#[112, 120]⟩, ⟨#[53]⟩, ⟨#[110, 120]⟩] = (spSET, ByteArray.empty) := by kernel_rfl
theorem names_c2 : wcheck [⟨#[83, 69, 84]⟩, ⟨#[107]⟩, ⟨#[119]⟩, ⟨#[78, 88]⟩, ⟨#[71, 69, 84]⟩] = (spSET, ByteArray.empty) := by kernel_rfl
theorem names_c3 : wcheck [⟨#[73, 78, 67, 82, 66, 89]⟩, ⟨#[107]⟩, ⟨#[49]⟩] = (spINCRBY, ByteArray.empty) := by kernel_rfl
theorem names_c4 : wcheck [⟨#[71, 69, 84]⟩, ⟨#[107]⟩] = (spGET, ByteArray.empty) := by kernel_rfl
theorem names_c5 : wcheck [⟨#[80, 73, 78, 71]⟩] = (spPING, ByteArray.empty) := by kernel_rfl
theorem names_w1 : whenOf 5 3 1000 = (3005, 0) := by kernel_rfl
theorem names_w2 : whenOf 5 1152921504606846976 1000 = (0, 111) := by kernel_rfl

set_option maxRecDepth 100000 in
set_option maxHeartbeats 4000000 in
theorem lawNames_any {w0 w : World} {r : Hp} (hS : Step w0 [] w r) (hG : Glob w0) :
    Calls Tryz.prog 4 #[] w (fun e w' => e = .returned (.bool true) ∧ Step w0 [] w' r) := by
  have halive := hid (alive_any hS hG)
  have hnew : ∀ w', Hid (Step w0 [] w' r → _) := fun w' => hid fun h => snew_any h 10000
  replace hG := hid hG
  clear hS
  go_enter Tryz.func4, Tryz.ntmps4
  go_wp2_with fail
  refine halive.out.mono ?_
  rintro e w0' ⟨rfl, S0⟩
  clear halive
  have hnew0 := hid ((hnew w0').out S0)
  clear hnew S0
  go_wp2_with fail
  refine hnew0.out.mono ?_
  rintro e w1 ⟨sb, l1, rfl, hX1, S1⟩
  clear hnew0
  replace S1 := hid S1
  replace hX1 := hid hX1
  have hdo : Calls Tryz.prog 17 #[ptr sb, .int .i64 10, .slice (some ⟨w1.heap.size, 0, none⟩) 6 6] (w1.alloc (WsObj [⟨#[115, 101, 116]⟩, ⟨#[107]⟩, ⟨#[118]⟩, ⟨#[112, 120]⟩, ⟨#[53]⟩, ⟨#[110, 120]⟩])) (CallPost w0 r sb _) := call_SET S1.out hG.out hX1.out ⟨newSt_tight _, by decide⟩ (by decide) names_c1 10 (by decide) (by simp)
  rw [names_e1] at hdo
  unfold CallPost at hdo
  simp only [lfOk, lfText, lfInt, lfNil] at hdo
  replace hdo := hid hdo
  clear S1 hX1
  go_wp2_with fail
  refine hdo.out.mono ?_
  rintro e w2 ⟨rfl, l2, hX2, S2⟩
  clear hdo
  replace hX2 := hid hX2
  unfold ansVal
  go_upto_region 5 with fail
  replace S2 := S2.keepLf (LfObj lfOk)
  try simp only [lfOk, lfText, lfInt, lfNil] at S2
  generalize hw : w2.alloc _ = w2a at S2 ⊢
  clear hw
  generalize w2.heap.size = ab at S2 ⊢
  replace S2 := hid S2
  have hdo : Calls Tryz.prog 17 #[ptr sb, .int .i64 11, .slice (some ⟨w2a.heap.size, 0, none⟩) 5 5] (w2a.alloc (WsObj [⟨#[83, 69, 84]⟩, ⟨#[107]⟩, ⟨#[119]⟩, ⟨#[78, 88]⟩, ⟨#[71, 69, 84]⟩])) (CallPost w0 ((ab, LfObj lfOk) :: r) sb _) := call_SET S2.out hG.out hX2.out ⟨Nat.le_of_ble_eq_true (by kernel_rfl), Nat.le_of_ble_eq_true (by kernel_rfl)⟩ (by decide) names_c2 11 (by decide) (by simp)
  rw [names_e2] at hdo
  unfold CallPost at hdo
  simp only [lfOk, lfText, lfInt, lfNil] at hdo
  replace hdo := hid hdo
  clear S2 hX2
  go_wp2_with fail
  refine hdo.out.mono ?_
  rintro e w3 ⟨rfl, l3, hX3, S3⟩
  clear hdo
  replace hX3 := hid hX3
  unfold ansVal
  go_upto_region 6 with fail
  replace S3 := S3.keepLf (LfObj (lfText ⟨#[118]⟩))
  try simp only [lfOk, lfText, lfInt, lfNil] at S3
  generalize hw : w3.alloc _ = w3a at S3 ⊢
  clear hw
  generalize w3.heap.size = bb at S3 ⊢
  replace S3 := hid S3
  have hdo : Calls Tryz.prog 17 #[ptr sb, .int .i64 11, .slice (some ⟨w3a.heap.size, 0, none⟩) 3 3] (w3a.alloc (WsObj [⟨#[73, 78, 67, 82, 66, 89]⟩, ⟨#[107]⟩, ⟨#[49]⟩])) (CallPost w0 ((bb, LfObj (lfText ⟨#[118]⟩)) :: ((ab, LfObj lfOk) :: r)) sb _) := call_INCRBY S3.out hG.out hX3.out ⟨Nat.le_of_ble_eq_true (by kernel_rfl), Nat.le_of_ble_eq_true (by kernel_rfl)⟩ (by decide) names_c3 11
  rw [names_e3] at hdo
  unfold CallPost at hdo
  simp only [lfOk, lfText, lfInt, lfNil] at hdo
  replace hdo := hid hdo
  clear S3 hX3
  go_wp2_with fail
  refine hdo.out.mono ?_
  rintro e w4 ⟨rfl, l4, hX4, S4⟩
  clear hdo
  replace hX4 := hid hX4
  unfold ansVal
  go_upto_region 7 with fail
  replace S4 := S4.keepLf (LfObj lfWrong)
  try simp only [lfOk, lfText, lfInt, lfNil] at S4
  generalize hw : w4.alloc _ = w4a at S4 ⊢
  clear hw
  generalize w4.heap.size = cb at S4 ⊢
  replace S4 := hid S4
  have hdo : Calls Tryz.prog 17 #[ptr sb, .int .i64 15, .slice (some ⟨w4a.heap.size, 0, none⟩) 2 2] (w4a.alloc (WsObj [⟨#[71, 69, 84]⟩, ⟨#[107]⟩])) (CallPost w0 ((cb, LfObj lfWrong) :: ((bb, LfObj (lfText ⟨#[118]⟩)) :: ((ab, LfObj lfOk) :: r))) sb _) := call_GET S4.out hG.out hX4.out ⟨Nat.le_of_ble_eq_true (by kernel_rfl), Nat.le_of_ble_eq_true (by kernel_rfl)⟩ (by decide) names_c4 15
  rw [names_e4] at hdo
  unfold CallPost at hdo
  simp only [lfOk, lfText, lfInt, lfNil] at hdo
  replace hdo := hid hdo
  clear S4 hX4
  go_wp2_with fail
  refine hdo.out.mono ?_
  rintro e w5 ⟨rfl, l5, hX5, S5⟩
  clear hdo
  replace hX5 := hid hX5
  unfold ansVal
  go_upto_region 8 with fail
  replace S5 := S5.keepLf (LfObj lfNil)
  try simp only [lfOk, lfText, lfInt, lfNil] at S5
  generalize hw : w5.alloc _ = w5a at S5 ⊢
  clear hw
  generalize w5.heap.size = db at S5 ⊢
  replace S5 := hid S5
  have hdo : Calls Tryz.prog 17 #[ptr sb, .int .i64 15, .slice (some ⟨w5a.heap.size, 0, none⟩) 1 1] (w5a.alloc (WsObj [⟨#[80, 73, 78, 71]⟩])) _ := do_PING (Ctx.call S5.out hG.out hX5.out (Nat.le_of_ble_eq_true (by kernel_rfl)) (Nat.le_of_ble_eq_true (by kernel_rfl)) [⟨#[80, 73, 78, 71]⟩] (by decide) (by decide)) names_c5 15
  replace hdo := hid hdo
  clear S5 hX5
  go_wp2_with fail
  refine hdo.out.mono ?_
  rintro e w6 ⟨rfl, S6⟩
  clear hdo
  unfold ansVal
  go_upto_region 9 with fail
  have S7 := S6.alloc ZeroVal
  generalize hw : w6.alloc _ = w6a at S7 ⊢
  clear hw S6
  have x_ := S7.own
  obtain ⟨d0, d1, d2, d3, d4, d5⟩ := lfAt (x_.at_ (db, LfObj lfNil) (by simp [lfNil]))
  obtain ⟨c0, c1, c2, c3, c4, c5⟩ := lfAt (x_.at_ (cb, LfObj lfWrong) (by simp))
  obtain ⟨b0, b1, b2, b3, b4, b5⟩ := lfAt (x_.at_ (bb, LfObj (lfText ⟨#[118]⟩)) (by simp [lfText]))
  obtain ⟨a0, a1, a2, a3, a4, a5⟩ := lfAt (x_.at_ (ab, LfObj lfOk) (by simp [lfOk]))
  simp only [lfOk, lfText, lfInt, lfNil, lfWrong] at a0 a1 a2 b0 b1 b2 c0 c1 c2 d0 d1 d2
  clear x_
  have S9 := hid (S7.pick (l2 := r) (m := (w6.heap.size, ZeroVal) :: (l5 ++ [(w5a.heap.size, WsObj [⟨#[80, 73, 78, 71]⟩]), (db, LfObj lfNil), (cb, LfObj lfWrong), (bb, LfObj (lfText ⟨#[118]⟩)), (ab, LfObj lfOk)])) (perm_by fun f => by
    simp only [List.map_append, List.sum_append, List.map_cons, List.sum_cons, List.map_nil, List.sum_nil, lfOk, lfText, lfNil]; omega))
  clear S7
  have hw1 := when_1000 5 3 w6a (by omega) (by omega)
  rw [names_w1] at hw1
  replace hw1 := hid hw1
  have hw2 := when_1000 5 1152921504606846976 w6a (by omega) (by omega)
  rw [names_w2] at hw2
  replace hw2 := hid hw2
  go_wp2_with fail
  refine hw1.out.mono ?_
  rintro e w7 ⟨rfl, rfl⟩
  clear hw1
  go_wp2_with fail
  refine hw2.out.mono ?_
  rintro e w7 ⟨rfl, rfl⟩
  clear hw2
  go_wp2_with fail
  go_ret
  exact ⟨rfl, S9.out⟩

end Go.Proofs.YtkmjlpmepggciaaGreatDoor
