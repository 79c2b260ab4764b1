/-
  TextsBack, the plain law: what INCRBY answers behind a text. No program in sight.
  nearhandlaw18: TextsBack, the walk (printed by gen_law.py).
-/
import Derived.Test.YtkmjlpmepggciaaGreatDoorPOne
set_option linter.unusedVariables false
set_option linter.unusedSimpArgs false
namespace Go.Proofs.YtkmjlpmepggciaaGreatDoor
open Go

theorem wadd_in {a b q : Int} (h : wadd a b = some q) : -9223372036854775808 ≤ q ∧ q ≤ 9223372036854775807 := by
  unfold wadd at h
  split at h
  · rename_i hb
    cases h; exact hb
  · cases h

/-- What INCRBY does to a text. -/
inductive AddEnd (s : ByteArray) (n : Int) (ev : List (Int × ByteArray)) (bud : Nat) (p : St × Lf) : Prop
  | no (c : Int) (h : p = (txt s ev bud, lfErr c)) (hc : c = 92 ∨ c = 12)
  | yes (q : Int) (h0 : -9223372036854775808 ≤ q) (h1 : q ≤ 9223372036854775807) (h : p = (txt (wtext q) (ev ++ [(1, kk)]) bud, lfInt q))

theorem txt_tAdd {s : ByteArray} {ev : List (Int × ByteArray)} {bud : Nat} (hb : 4145 ≤ bud) (now n : Int) (hn : -9223372036854775808 ≤ n ∧ n ≤ 9223372036854775807) : AddEnd s n ev bud (tAddText (txt s ev bud) now kk (wtext n) false) := by
  have e : tAddText (txt s ev bud) now kk (wtext n) false = tAdd (txt s ev bud) now kk n := by
    simp only [tAddText, wnum_wtext hn.1 hn.2]
    rfl
  rw [e, tAdd, txt_get, txt_look]
  have hk : ¬ (textItm s).kind = 2 := by show ¬ (1 : Int) = 2; decide
  have ht : (textItm s).text = s := rfl
  simp only [addOf, hk, if_false, ht]
  cases h1 : wnum s with
  | none => exact .no 92 rfl (.inl rfl)
  | some m =>
    simp only
    cases h2 : wadd m n with
    | none => exact .no 12 rfl (.inr rfl)
    | some q =>
      have hq : -9223372036854775808 ≤ q ∧ q ≤ 9223372036854775807 := wadd_in h2
      refine .yes q hq.1 hq.2 ?_
      simp only
      exact tKeep_txt (by have := wtext_small q hq.1 hq.2; omega) hb now _

end Go.Proofs.YtkmjlpmepggciaaGreatDoor

namespace Go.Proofs.YtkmjlpmepggciaaGreatDoor
open Go Go.RowKit

theorem new_back : newSt 1000000 = ⟨[], [], [], 1000000⟩ := by
  have : (max 0 (min (1000000 : Int) 1000000000000)).toNat = 1000000 := by decide
  rw [newSt, this]
theorem back_c1 {a : ByteArray} : wcheck [⟨#[83, 69, 84]⟩, ⟨#[107]⟩, a] = (spSET, ByteArray.empty) := by kernel_rfl
theorem back_c2 : wcheck [⟨#[71, 69, 84]⟩, ⟨#[107]⟩] = (spGET, ByteArray.empty) := by kernel_rfl
theorem back_c3 {b : ByteArray} : wcheck [⟨#[65, 80, 80, 69, 78, 68]⟩, ⟨#[107]⟩, b] = (spAPPEND, ByteArray.empty) := by kernel_rfl
theorem back_c4 {b : ByteArray} : wcheck [⟨#[73, 78, 67, 82, 66, 89]⟩, ⟨#[107]⟩, b] = (spINCRBY, ByteArray.empty) := by kernel_rfl
theorem back_c5 : wcheck [⟨#[83, 84, 82, 76, 69, 78]⟩, ⟨#[107]⟩] = (spSTRLEN, ByteArray.empty) := by kernel_rfl

set_option maxRecDepth 100000 in
set_option maxHeartbeats 4000000 in
theorem lawBack_any {w0 w : World} {r : Hp} (hS : Step w0 [] w r) (hG : Glob w0) (a b : ByteArray) (n : Int) (hn : -9223372036854775808 ≤ n ∧ n ≤ 9223372036854775807) :
    Calls Tryz.prog 6 #[.string a, .string b, .int .i64 n] w (fun e w' => e = .returned (.bool true) ∧ Step w0 [] w' r) := by
  have halive := hid (alive_any hS hG)
  have hnew : ∀ w', Hid (Step w0 [] w' r → _) := fun w' => hid fun h => snew_any h 1000000
  replace hG := hid hG
  clear hS
  go_enter Tryz.func6, Tryz.ntmps6
  go_wp2_with fail
  refine halive.out.mono ?_
  rintro e w0' ⟨rfl, S0⟩
  clear halive
  by_cases ga : 2000 < a.size
  · have ga2 : (2000 : Int) < (a.size : Int) := by omega
    replace S0 := hid S0
    clear hnew
    go_wp2_with fail
    go_ret
    exact ⟨rfl, S0.out⟩
  by_cases gb : 2000 < b.size
  · have ga2 : ¬ (2000 : Int) < (a.size : Int) := by omega
    have gb2 : (2000 : Int) < (b.size : Int) := by omega
    replace S0 := hid S0
    clear hnew
    go_wp2_with fail
    go_ret
    exact ⟨rfl, S0.out⟩
  have ga2 : ¬ (2000 : Int) < (a.size : Int) := by omega
  have gb2 : ¬ (2000 : Int) < (b.size : Int) := by omega
  have hab := hid (show (a ++ b).size = a.size + b.size from ByteArray.size_append)
  have hnew0 := hid ((hnew w0').out S0)
  clear hnew S0
  go_wp2_with fail
  refine hnew0.out.mono ?_
  rintro e w1 ⟨sb, l1, rfl, hX1, S1⟩
  clear hnew0
  replace S1 := hid S1
  replace hX1 := hid hX1
  have hdo : Calls Tryz.prog 17 #[ptr sb, .int .i64 0, .slice (some ⟨w1.heap.size, 0, none⟩) 3 3] (w1.alloc (WsObj [⟨#[83, 69, 84]⟩, ⟨#[107]⟩, a])) (CallPost w0 r sb _) := call_SET S1.out hG.out hX1.out ⟨newSt_tight _, by decide⟩ (by simp only [List.forall_mem_cons, List.not_mem_nil, false_implies, implies_true, and_true]; exact ⟨by decide, by decide, by omega⟩) back_c1 0 (by decide) (by simp)
  rw [new_set new_back (by decide) (by omega : a.size ≤ 4096) 0] at hdo
  unfold CallPost at hdo
  simp only [lfOk, lfText, lfInt, lfNil] at hdo
  replace hdo := hid hdo
  clear S1 hX1
  go_wp2_with fail
  refine hdo.out.mono ?_
  rintro e w2 ⟨rfl, l2, hX2, S2⟩
  clear hdo
  replace hX2 := hid hX2
  replace S2 := hid S2
  have hdo : Calls Tryz.prog 17 #[ptr sb, .int .i64 0, .slice (some ⟨w2.heap.size, 0, none⟩) 2 2] (w2.alloc (WsObj [⟨#[71, 69, 84]⟩, ⟨#[107]⟩])) (CallPost w0 r sb _) := call_GET S2.out hG.out hX2.out ⟨txt_tight (by have := hab.out; omega) (by decide), by rw [txt_load]; simp⟩ (by decide) back_c2 0
  rw [txt_tGet] at hdo
  unfold CallPost at hdo
  simp only [lfOk, lfText, lfInt, lfNil] at hdo
  replace hdo := hid hdo
  clear S2 hX2
  go_wp2_with fail
  refine hdo.out.mono ?_
  rintro e w3 ⟨rfl, l3, hX3, S3⟩
  clear hdo
  replace hX3 := hid hX3
  unfold ansVal
  go_upto_region 8 with fail
  replace S3 := S3.keepLf (LfObj (lfText a))
  try simp only [lfOk, lfText, lfInt, lfNil] at S3
  generalize hw : w3.alloc _ = w3a at S3 ⊢
  clear hw
  generalize w3.heap.size = xb at S3 ⊢
  replace S3 := hid S3
  have hdo : Calls Tryz.prog 17 #[ptr sb, .int .i64 0, .slice (some ⟨w3a.heap.size, 0, none⟩) 3 3] (w3a.alloc (WsObj [⟨#[65, 80, 80, 69, 78, 68]⟩, ⟨#[107]⟩, b])) (CallPost w0 ((xb, LfObj (lfText a)) :: r) sb _) := call_APPEND S3.out hG.out hX3.out ⟨txt_tight (by have := hab.out; omega) (by decide), by rw [txt_load]; simp⟩ (by simp only [List.forall_mem_cons, List.not_mem_nil, false_implies, implies_true, and_true]; exact ⟨by decide, by decide, by omega⟩) back_c3 0
  rw [txt_tJoin (by omega : a.size + b.size ≤ 4096) (by decide)] at hdo
  unfold CallPost at hdo
  simp only [lfOk, lfText, lfInt, lfNil] at hdo
  replace hdo := hid hdo
  clear S3 hX3
  go_wp2_with fail
  refine hdo.out.mono ?_
  rintro e w4 ⟨rfl, l4, hX4, S4⟩
  clear hdo
  replace hX4 := hid hX4
  unfold ansVal
  go_upto_region 9 with fail
  replace S4 := S4.keepLf (LfObj (lfInt ((a.size : Int) + (b.size : Int))))
  try simp only [lfOk, lfText, lfInt, lfNil] at S4
  generalize hw : w4.alloc _ = w4a at S4 ⊢
  clear hw
  generalize w4.heap.size = yb at S4 ⊢
  replace S4 := hid S4
  have hdo : Calls Tryz.prog 17 #[ptr sb, .int .i64 0, .slice (some ⟨w4a.heap.size, 0, none⟩) 2 2] (w4a.alloc (WsObj [⟨#[71, 69, 84]⟩, ⟨#[107]⟩])) (CallPost w0 ((yb, LfObj (lfInt ((a.size : Int) + (b.size : Int)))) :: ((xb, LfObj (lfText a)) :: r)) sb _) := call_GET S4.out hG.out hX4.out ⟨txt_tight (by have := hab.out; omega) (by decide), by rw [txt_load]; simp⟩ (by decide) back_c2 0
  rw [txt_tGet] at hdo
  unfold CallPost at hdo
  simp only [lfOk, lfText, lfInt, lfNil] at hdo
  replace hdo := hid hdo
  clear S4 hX4
  go_wp2_with fail
  refine hdo.out.mono ?_
  rintro e w5 ⟨rfl, l5, hX5, S5⟩
  clear hdo
  replace hX5 := hid hX5
  unfold ansVal
  go_upto_region 10 with fail
  replace S5 := S5.keepLf (LfObj (lfText (a ++ b)))
  try simp only [lfOk, lfText, lfInt, lfNil] at S5
  generalize hw : w5.alloc _ = w5a at S5 ⊢
  clear hw
  generalize w5.heap.size = zb at S5 ⊢
  replace S5 := hid S5
  have x_ := S5.out.own.right
  obtain ⟨z0, z1, z2, z3, z4, z5⟩ := lfAt (x_.at_ (zb, LfObj (lfText (a ++ b))) (by simp [lfText]))
  obtain ⟨y0, y1, y2, y3, y4, y5⟩ := lfAt (x_.at_ (yb, LfObj (lfInt ((a.size : Int) + (b.size : Int)))) (by simp [lfInt]))
  obtain ⟨x0, x1, x2, x3, x4, x5⟩ := lfAt (x_.at_ (xb, LfObj (lfText a)) (by simp [lfText]))
  simp only [lfOk, lfText, lfInt, lfNil] at x0 x1 x2 y0 y1 y2 z0 z1 z2
  clear x_
  have hz : ¬ 9223372036854775807 < a.size + b.size := by omega
  go_upto_region 12 with fail
  clear x0 x1 x2 x3 x4 x5 y0 y1 y2 y3 y4 y5 z0 z1 z2 z3 z4 z5
  have hS6 := hid (S5.out.pick (l2 := l5 ++ r) (m := [(zb, LfObj (lfText (a ++ b))), (yb, LfObj (lfInt ((a.size : Int) + (b.size : Int)))), (xb, LfObj (lfText a))]) (perm_by fun f => by
    simp only [List.map_append, List.sum_append, List.map_cons, List.sum_cons, List.map_nil, List.sum_nil, lfText, lfInt]; omega))
  clear S5
  have hsn := wtext_small n hn.1 hn.2
  have hrt := hid (rtext_any n w5a hn)
  go_wp2_with fail
  refine hrt.out.mono ?_
  rintro e w5b ⟨rfl, rfl⟩
  clear hrt
  have hdo : Calls Tryz.prog 17 #[ptr sb, .int .i64 0, .slice (some ⟨w5b.heap.size, 0, none⟩) 3 3] (w5b.alloc (WsObj [⟨#[73, 78, 67, 82, 66, 89]⟩, ⟨#[107]⟩, (wtext n)])) (CallPost w0 r sb _) := call_INCRBY hS6.out hG.out hX5.out ⟨txt_tight (by have := hab.out; omega) (by decide), by rw [txt_load]; simp⟩ (by simp only [List.forall_mem_cons, List.not_mem_nil, false_implies, implies_true, and_true]; exact ⟨by decide, by decide, by omega⟩) back_c4 0
  have hadd := txt_tAdd (s := a ++ b) (ev := [(1, kk)] ++ [(1, kk)]) (bud := 1000000) (by decide) 0 n hn
  generalize tAddText _ 0 kk (wtext n) false = p at hdo hadd
  rcases hadd with ⟨cd, rfl, hcd⟩ | ⟨q, q0, q1, rfl⟩
  · simp only [lfErr] at hdo
    generalize errText cd = te at hdo
    clear hcd
    unfold CallPost at hdo
    simp only [lfOk, lfText, lfInt, lfNil] at hdo
    replace hdo := hid hdo
    clear hS6 hX5
    go_wp2_with fail
    refine hdo.out.mono ?_
    rintro e w6 ⟨rfl, l6, hX6, S6⟩
    clear hdo
    replace hX6 := hid hX6
    unfold ansVal
    go_upto_region 13 with fail
    replace S6 := S6.keepLf (LfObj ⟨2, te, 0⟩)
    try simp only [lfOk, lfText, lfInt, lfNil] at S6
    generalize hw : w6.alloc _ = w6a at S6 ⊢
    clear hw
    generalize w6.heap.size = pb at S6 ⊢
    replace S6 := hid S6
    have hdo : Calls Tryz.prog 17 #[ptr sb, .int .i64 0, .slice (some ⟨w6a.heap.size, 0, none⟩) 2 2] (w6a.alloc (WsObj [⟨#[71, 69, 84]⟩, ⟨#[107]⟩])) (CallPost w0 ((pb, LfObj ⟨2, te, 0⟩) :: r) sb _) := call_GET S6.out hG.out hX6.out ⟨txt_tight (by have := hab.out; omega) (by decide), by rw [txt_load]; simp⟩ (by decide) back_c2 0
    rw [txt_tGet] at hdo
    unfold CallPost at hdo
    simp only [lfOk, lfText, lfInt, lfNil] at hdo
    replace hdo := hid hdo
    clear S6 hX6
    go_wp2_with fail
    refine hdo.out.mono ?_
    rintro e w7 ⟨rfl, l7, hX7, S7⟩
    clear hdo
    replace hX7 := hid hX7
    unfold ansVal
    go_upto_region 14 with fail
    replace S7 := S7.keepLf (LfObj (lfText (a ++ b)))
    try simp only [lfOk, lfText, lfInt, lfNil] at S7
    generalize hw : w7.alloc _ = w7a at S7 ⊢
    clear hw
    generalize w7.heap.size = qb at S7 ⊢
    replace S7 := hid S7
    have x_ := S7.out.own.right
    obtain ⟨z0, z1, z2, z3, z4, z5⟩ := lfAt (x_.at_ (qb, LfObj (lfText (a ++ b))) (by simp [lfText]))
    obtain ⟨y0, y1, y2, y3, y4, y5⟩ := lfAt (x_.at_ (pb, LfObj ⟨2, te, 0⟩) (by simp))
    simp only [lfOk, lfText, lfInt, lfNil] at y0 y1 y2 z0 z1 z2
    clear x_
    have S9 := hid (S7.out.pick (l2 := r) (m := l7 ++ [(qb, LfObj (lfText (a ++ b))), (pb, LfObj ⟨2, te, 0⟩)]) (perm_by fun f => by
      simp only [List.map_append, List.sum_append, List.map_cons, List.sum_cons, List.map_nil, List.sum_nil, lfText, lfInt]; omega))
    clear S7 hX7
    go_wp2_with fail
    go_ret
    exact ⟨rfl, S9.out⟩
  · have hq21 := wtext_small q q0 q1
    unfold CallPost at hdo
    simp only [lfOk, lfText, lfInt, lfNil] at hdo
    replace hdo := hid hdo
    clear hS6 hX5
    go_wp2_with fail
    refine hdo.out.mono ?_
    rintro e w6 ⟨rfl, l6, hX6, S6⟩
    clear hdo
    replace hX6 := hid hX6
    unfold ansVal
    go_upto_region 13 with fail
    replace S6 := S6.keepLf (LfObj (lfInt q))
    try simp only [lfOk, lfText, lfInt, lfNil] at S6
    generalize hw : w6.alloc _ = w6a at S6 ⊢
    clear hw
    generalize w6.heap.size = pb at S6 ⊢
    replace S6 := hid S6
    have hdo : Calls Tryz.prog 17 #[ptr sb, .int .i64 0, .slice (some ⟨w6a.heap.size, 0, none⟩) 2 2] (w6a.alloc (WsObj [⟨#[71, 69, 84]⟩, ⟨#[107]⟩])) (CallPost w0 ((pb, LfObj (lfInt q)) :: r) sb _) := call_GET S6.out hG.out hX6.out ⟨txt_tight (by omega) (by decide), by rw [txt_load]; simp⟩ (by decide) back_c2 0
    rw [txt_tGet] at hdo
    unfold CallPost at hdo
    simp only [lfOk, lfText, lfInt, lfNil] at hdo
    replace hdo := hid hdo
    clear S6 hX6
    go_wp2_with fail
    refine hdo.out.mono ?_
    rintro e w7 ⟨rfl, l7, hX7, S7⟩
    clear hdo
    replace hX7 := hid hX7
    unfold ansVal
    go_upto_region 14 with fail
    replace S7 := S7.keepLf (LfObj (lfText (wtext q)))
    try simp only [lfOk, lfText, lfInt, lfNil] at S7
    generalize hw : w7.alloc _ = w7a at S7 ⊢
    clear hw
    generalize w7.heap.size = qb at S7 ⊢
    replace S7 := hid S7
    have x_ := S7.out.own.right
    obtain ⟨y0, y1, y2, y3, y4, y5⟩ := lfAt (x_.at_ (pb, LfObj (lfInt q)) (by simp [lfInt]))
    simp only [lfOk, lfText, lfInt, lfNil] at y0 y1 y2
    clear x_
    go_upto_region 16 with fail
    clear y0 y1 y2 y3 y4 y5
    have hdo : Calls Tryz.prog 17 #[ptr sb, .int .i64 0, .slice (some ⟨w7a.heap.size, 0, none⟩) 2 2] (w7a.alloc (WsObj [⟨#[83, 84, 82, 76, 69, 78]⟩, ⟨#[107]⟩])) (CallPost w0 ((qb, LfObj (lfText (wtext q))) :: ((pb, LfObj (lfInt q)) :: r)) sb _) := call_STRLEN S7.out hG.out hX7.out ⟨txt_tight (by omega) (by decide), by rw [txt_load]; simp⟩ (by decide) back_c5 0
    rw [txt_tSize] at hdo
    unfold CallPost at hdo
    simp only [lfOk, lfText, lfInt, lfNil] at hdo
    replace hdo := hid hdo
    clear S7 hX7
    go_wp2_with fail
    refine hdo.out.mono ?_
    rintro e w8 ⟨rfl, l8, hX8, S8⟩
    clear hdo
    replace hX8 := hid hX8
    unfold ansVal
    go_upto_region 17 with fail
    replace S8 := S8.keepLf (LfObj (lfInt (wtext q).size))
    try simp only [lfOk, lfText, lfInt, lfNil] at S8
    generalize hw : w8.alloc _ = w8a at S8 ⊢
    clear hw
    generalize w8.heap.size = rb at S8 ⊢
    replace S8 := hid S8
    have x_ := S8.out.own.right
    obtain ⟨x0, x1, x2, x3, x4, x5⟩ := lfAt (x_.at_ (rb, LfObj (lfInt (wtext q).size)) (by simp [lfInt]))
    obtain ⟨z0, z1, z2, z3, z4, z5⟩ := lfAt (x_.at_ (qb, LfObj (lfText (wtext q))) (by simp [lfText]))
    obtain ⟨y0, y1, y2, y3, y4, y5⟩ := lfAt (x_.at_ (pb, LfObj (lfInt q)) (by simp [lfInt]))
    simp only [lfOk, lfText, lfInt, lfNil] at x0 x1 x2 y0 y1 y2 z0 z1 z2
    clear x_
    have S9 := hid (S8.out.pick (l2 := r) (m := l8 ++ [(rb, LfObj (lfInt (wtext q).size)), (qb, LfObj (lfText (wtext q))), (pb, LfObj (lfInt q))]) (perm_by fun f => by
      simp only [List.map_append, List.sum_append, List.map_cons, List.sum_cons, List.map_nil, List.sum_nil, lfText, lfInt]; omega))
    clear S8 hX8
    have hrt : ∀ w' : World, Hid _ := fun w' => hid (rtext_any q w' ⟨q0, q1⟩)
    go_wp2_with fail
    go_quiet ((go_at_call 20; exact Calls.quiet_of_same (hrt _).out))
    go_wp2_with fail
    go_ret
    exact ⟨rfl, S9.out.drewN _⟩

end Go.Proofs.YtkmjlpmepggciaaGreatDoor
