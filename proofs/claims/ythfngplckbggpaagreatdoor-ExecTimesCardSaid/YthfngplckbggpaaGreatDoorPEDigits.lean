/-
  nearhandlaw20: digits. (For a seat of exec.)
  nearhandlaw20: ExecTimes (printed by gen_law20.py).
-/
import Derived.Test.YthfngplckbggpaaGreatDoorPOne
import Derived.Test.YthfngplckbggpaaGreatDoorPERun
set_option linter.unusedVariables false
set_option linter.unusedSimpArgs false
namespace Go.Proofs.YthfngplckbggpaaGreatDoor
open Go Go.RowKit

set_option maxRecDepth 100000 in
theorem edig_digit (n : Int) (w : World) (h0 : 0 ≤ n) (h1 : n < 10) :
    Calls Tryz.prog 12 #[.int .i64 n] w fun e w' => e = .returned (.string (wtext n)) ∧ w' = w := by
  have e := hid (wtext_digit h0 h1)
  have hx := hid (dig_lit h0 h1)
  have h2 : n + 1 ≤ 10 := by omega
  have h3 : n ≤ n + 1 := by omega
  go_enter Tryz.func12, Tryz.ntmps12
  go_wp2_with fail
  go_ret
  rw [e.out, ← hx.out]
  exact ⟨rfl, rfl⟩

set_option maxRecDepth 100000 in
set_option maxHeartbeats 1000000 in
theorem edig_step (m : Nat) (IH : ∀ (n : Int) (w : World), n.natAbs < m → 0 ≤ n → n ≤ 9223372036854775807 → Calls Tryz.prog 12 #[.int .i64 n] w fun e w' => e = .returned (.string (wtext n)) ∧ w' = w) (n : Int) (w : World) (hm : n.natAbs ≤ m) (h0 : 0 ≤ n) (h1 : n ≤ 9223372036854775807) :
    Calls Tryz.prog 12 #[.int .i64 n] w fun e w' => e = .returned (.string (wtext n)) ∧ w' = w := by
  by_cases c1 : n < 10
  · exact edig_digit n w h0 c1
  obtain ⟨q1, q2, _⟩ := ten_of n
  obtain ⟨q2a, q2b, q2c⟩ := q2 h0
  have e7 : n.tmod 10 = n % 10 := Int.tmod_eq_emod_of_nonneg (by omega)
  rw [e7] at q1 q2a q2b
  have e := hid (e7 ▸ wtext_more (n := n) (by omega))
  have ih : ∀ w', Hid _ := fun w' => hid (IH (n.tdiv 10) w' (by omega) (by omega) (by omega))
  have hd : ∀ w', Hid _ := fun w' => hid (edig_digit (n % 10) w' q2a q2b)
  have g1 : -9223372036854775808 ≤ n.tdiv 10 := by omega
  have g2 : n.tdiv 10 ≤ 9223372036854775807 := by omega
  have g3 : -9223372036854775808 ≤ n % 10 := by omega
  have g4 : n % 10 ≤ 9223372036854775807 := by omega
  have hz1 := wtext_small (n.tdiv 10) g1 g2
  have hz2 := wtext_small (n % 10) g3 g4
  have hz : ¬ 9223372036854775807 < (wtext (n.tdiv 10)).size + (wtext (n % 10)).size := by omega
  clear hz1 hz2
  clear e7 q1 q2 q2a q2b q2c hm IH
  go_enter Tryz.func12, Tryz.ntmps12
  go_wp2_with fail
  refine (ih _).out.mono ?_
  rintro e1 w1 ⟨rfl, rfl⟩
  go_wp2_with fail
  refine (hd _).out.mono ?_
  rintro e1 w1 ⟨rfl, rfl⟩
  go_wp2_with fail
  go_ret
  rw [e.out]
  exact ⟨rfl, rfl⟩

theorem edig_any (n : Int) (w : World) (h0 : 0 ≤ n) (h1 : n ≤ 9223372036854775807) :
    Calls Tryz.prog 12 #[.int .i64 n] w fun e w' => e = .returned (.string (wtext n)) ∧ w' = w := by
  suffices h : ∀ (m : Nat) (n : Int) (w : World), n.natAbs ≤ m → 0 ≤ n → n ≤ 9223372036854775807 → Calls Tryz.prog 12 #[.int .i64 n] w fun e w' => e = .returned (.string (wtext n)) ∧ w' = w from
    h n.natAbs n w (Nat.le_refl _) h0 h1
  intro m
  induction m with
  | zero => exact fun n w hm h0 h1 => edig_step 0 (fun n w hn => by omega) n w hm h0 h1
  | succ m ih => exact fun n w hm h0 h1 => edig_step (m + 1) (fun n w hn h0 h1 => ih n w (by omega) h0 h1) n w hm h0 h1

end Go.Proofs.YthfngplckbggpaaGreatDoor

namespace Go.Proofs.YthfngplckbggpaaGreatDoor
open Go Go.RowKit

theorem etimes_PEXPIRE {a : ByteArray} : wcheck [⟨#[80, 69, 88, 80, 73, 82, 69]⟩, kk, a] = (spPEXPIRE, ByteArray.empty) := by kernel_rfl
theorem etimes_PTTL : wcheck [⟨#[80, 84, 84, 76]⟩, kk] = (spPTTL, ByteArray.empty) := by kernel_rfl
theorem etimes_TTL : wcheck [⟨#[84, 84, 76]⟩, kk] = (spTTL, ByteArray.empty) := by kernel_rfl
theorem etimes_PERSIST : wcheck [⟨#[80, 69, 82, 83, 73, 83, 84]⟩, kk] = (spPERSIST, ByteArray.empty) := by kernel_rfl

set_option maxRecDepth 100000 in
set_option maxHeartbeats 8000000 in
theorem etimes_any {w0 w : World} {r : Hp} (hS : Step w0 [] w r) (hG : Glob w0) (long wait : Nat) (hl : long ≤ 65535) (hw : wait ≤ 65535) :
    Calls Tryz.prog 4 #[.int .u16 long, .int .u16 wait] w (fun e w' => e = .returned (.bool true) ∧ Step w0 [] w' r) := by
  have halive := hid (ealive_any hS hG)
  have hnew : ∀ w', Hid (Step w0 [] w' r → _) := fun w' => hid fun h => snew_any h 10000
  have hdig : ∀ w', Hid _ := fun w' => hid (edig_any (long : Int) w' (by omega) (by omega))
  have hsz := wtext_small (long : Int) (by omega) (by omega)
  obtain ⟨tl, htl⟩ : ∃ tl, tl = wtext (long : Int) := ⟨_, rfl⟩
  rw [← htl] at hdig hsz
  replace hsz := hid hsz
  replace htl := hid htl
  replace hG := hid hG
  clear hS
  have hl0 : (0 : Int) ≤ (long : Int) := by omega
  have hl1 : (long : Int) ≤ 65535 := by omega
  have hw00 : (0 : Int) ≤ (wait : Int) := by omega
  have hw1 : (wait : Int) ≤ 65535 := by omega
  go_enter Tryz.func4, Tryz.ntmps4
  go_wp2_with fail
  refine halive.out.mono ?_
  rintro e wa ⟨rfl, S0⟩
  have hnew0 := hid ((hnew wa).out S0)
  clear halive hnew S0
  go_wp2_with fail
  refine hnew0.out.mono ?_
  rintro e w1 ⟨sb, l1, rfl, hX1, S1⟩
  clear hnew0
  have hdo : Calls Tryz.prog 10 #[ptr sb, .int .i64 0, .slice (some ⟨w1.heap.size, 0, none⟩) 3 3] (w1.alloc (WsObj [⟨#[83, 69, 84]⟩, kk, kv])) (RunEnd w0 (r) sb (eYes [] [(1, kk)]) 1 ⟨#[79, 75]⟩ 0 []) := by
    have q := xrun_SET S1 hG.out hX1 ⟨newSt_tight _, by decide⟩ (by decide) ealive_c1 0 (by decide) (by decide)
    rw [e_set'] at q
    exact q
  replace hdo := hid hdo
  clear S1 hX1
  go_wp2_with fail
  refine hdo.out.mono ?_
  rintro e w2 ⟨a2, c2, ev2, xl2, el2, l2, rfl, hxl2, hev2, hX2, S2⟩
  clear hdo hxl2
  replace S2 := S2.told
  replace hX2 : IsStore l2 sb (eYes [] []) := hX2
  clear hev2
  replace S2 := hid S2
  replace hX2 := hid hX2
  go_wp2_with fail
  refine (hdig _).out.mono ?_
  rintro e w2' ⟨rfl, rfl⟩
  clear hdig
  obtain ⟨ev, hq⟩ := q_pexpire long hl
  rw [← htl.out] at hq
  replace S2 := S2.out
  replace hX2 := hX2.out
  have hdo : Calls Tryz.prog 10 #[ptr sb, .int .i64 0, .slice (some ⟨w2'.heap.size, 0, none⟩) 3 3] (w2'.alloc (WsObj [⟨#[80, 69, 88, 80, 73, 82, 69]⟩, kk, tl])) (RunEnd w0 (r) sb { eSt long with ev := ev } 3 ByteArray.empty 1 []) := by
    have q := xrun_PEXPIRE (c := ⟨#[80, 69, 88, 80, 73, 82, 69]⟩) (k := kk) (m := tl) S2 hG.out hX2 (eYes_ok _ _ (by decide)) (by have := hsz.out; simp only [List.forall_mem_cons, List.not_mem_nil, false_implies, implies_true, and_true]; exact ⟨by decide, by decide, by omega⟩) etimes_PEXPIRE 0 (by decide)
    rw [hq] at q
    exact q
  replace hdo := hid hdo
  clear S2 hX2
  go_wp2_with fail
  refine hdo.out.mono ?_
  rintro e w3 ⟨a3, c3, ev3, xl3, el3, l3, rfl, hxl3, hev3, hX3, S3⟩
  clear hdo hxl3
  clear hq
  replace S3 := S3.told
  replace hX3 : IsStore l3 sb (eSt long) := by
    have q := hX3
    rw [St.told_self (eSt_ev long)] at q
    exact q
  clear hev3
  unfold ansVal
  go_upto_region 6 with fail
  have S3' := S3.alloc (ValObj 3 ByteArray.empty 1 (.slice a3 0 c3))
  generalize hw : w3.alloc _ = w3'
  replace S3' : Step w0 [] w3' _ := hw ▸ S3'
  clear hw S3
  generalize w3.heap.size = xa at S3' ⊢
  replace S3' := S3'.permR (l2 := l3 ++ ((xa, ValObj 3 ByteArray.empty 1 (.slice a3 0 c3)) :: (r))) (perm_by fun f => by simp only [List.map_append, List.sum_append, List.map_cons, List.sum_cons, List.map_nil, List.sum_nil]; omega)
  obtain ⟨ev, hq⟩ := q_pttl long wait
  obtain ⟨vb, hvb⟩ : ∃ vb : Int, vb = if long ≤ wait then -2 else (long : Int) - wait := ⟨_, rfl⟩
  rw [← hvb] at hq
  replace hvb := hid hvb
  replace S3' := hid S3'
  go_upto_region 7 with fail
  replace S3' := S3'.out
  have hdo : Calls Tryz.prog 10 #[ptr sb, .int .i64 wait, .slice (some ⟨w3'.heap.size, 0, none⟩) 2 2] (w3'.alloc (WsObj [⟨#[80, 84, 84, 76]⟩, kk])) (RunEnd w0 ((xa, ValObj 3 ByteArray.empty 1 (.slice a3 0 c3)) :: (r)) sb { eAt long wait with ev := ev } 3 ByteArray.empty vb []) := by
    have q := xrun_PTTL S3' hG.out hX3 (eSt_ok long) (by decide) etimes_PTTL wait (by omega) (q_hr1 long wait hl hw)
    rw [hq] at q
    exact q
  replace hdo := hid hdo
  clear S3' hX3
  go_wp2_with fail
  refine hdo.out.mono ?_
  rintro e w4 ⟨a4, c4, ev4, xl4, el4, l4, rfl, hxl4, hev4, hX4, S4⟩
  clear hdo hxl4
  clear hq
  replace S4 := S4.told
  replace hX4 : IsStore l4 sb (eAt long wait) := by
    have q := hX4
    rw [St.told_self (eAt_ev long wait)] at q
    exact q
  clear hev4
  unfold ansVal
  go_upto_region 8 with fail
  have S4' := S4.alloc (ValObj 3 ByteArray.empty vb (.slice a4 0 c4))
  generalize hw : w4.alloc _ = w4'
  replace S4' : Step w0 [] w4' _ := hw ▸ S4'
  clear hw S4
  generalize w4.heap.size = xb at S4' ⊢
  replace S4' := S4'.permR (l2 := l4 ++ ((xb, ValObj 3 ByteArray.empty vb (.slice a4 0 c4)) :: ((xa, ValObj 3 ByteArray.empty 1 (.slice a3 0 c3)) :: (r)))) (perm_by fun f => by simp only [List.map_append, List.sum_append, List.map_cons, List.sum_cons, List.map_nil, List.sum_nil]; omega)
  have hq := q_ttl long wait
  obtain ⟨vc, hvc⟩ : ∃ vc : Int, vc = if long ≤ wait then -2 else secs ((long : Int) - wait) := ⟨_, rfl⟩
  rw [← hvc] at hq
  replace hvc := hid hvc
  have hdo : Calls Tryz.prog 10 #[ptr sb, .int .i64 wait, .slice (some ⟨w4'.heap.size, 0, none⟩) 2 2] (w4'.alloc (WsObj [⟨#[84, 84, 76]⟩, kk])) (RunEnd w0 ((xb, ValObj 3 ByteArray.empty vb (.slice a4 0 c4)) :: ((xa, ValObj 3 ByteArray.empty 1 (.slice a3 0 c3)) :: (r))) sb (eAt long wait) 3 ByteArray.empty vc []) := by
    have q := xrun_TTL S4' hG.out hX4 (eAt_ok long wait) (by decide) etimes_TTL wait (by omega) (q_hr2 long wait hl hw)
    rw [hq] at q
    exact q
  replace hdo := hid hdo
  clear S4' hX4
  go_wp2_with fail
  refine hdo.out.mono ?_
  rintro e w5 ⟨a5, c5, ev5, xl5, el5, l5, rfl, hxl5, hev5, hX5, S5⟩
  clear hdo hxl5
  clear hq
  replace S5 := S5.told
  replace hX5 : IsStore l5 sb (eAt long wait) := by
    have q := hX5
    have h2 : ({ eAt long wait with ev := [] } : St) = eAt long wait := St.told_self (ev := []) (eAt_ev long wait)
    rw [h2] at q
    exact q
  clear hev5
  unfold ansVal
  go_upto_region 9 with fail
  have S5' := S5.alloc (ValObj 3 ByteArray.empty vc (.slice a5 0 c5))
  generalize hw : w5.alloc _ = w5'
  replace S5' : Step w0 [] w5' _ := hw ▸ S5'
  clear hw S5
  generalize w5.heap.size = xc at S5' ⊢
  replace S5' := S5'.permR (l2 := l5 ++ ((xc, ValObj 3 ByteArray.empty vc (.slice a5 0 c5)) :: ((xb, ValObj 3 ByteArray.empty vb (.slice a4 0 c4)) :: ((xa, ValObj 3 ByteArray.empty 1 (.slice a3 0 c3)) :: (r))))) (perm_by fun f => by simp only [List.map_append, List.sum_append, List.map_cons, List.sum_cons, List.map_nil, List.sum_nil]; omega)
  obtain ⟨ev, hq⟩ := q_persist long wait
  obtain ⟨vd, hvd⟩ : ∃ vd : Int, vd = if !decide (long ≤ wait) then 1 else 0 := ⟨_, rfl⟩
  have hly : lfYes (!decide (long ≤ wait)) = lfInt vd := by rw [hvd]; rfl
  rw [hly] at hq
  clear hly
  replace hvd := hid hvd
  have hdo : Calls Tryz.prog 10 #[ptr sb, .int .i64 wait, .slice (some ⟨w5'.heap.size, 0, none⟩) 2 2] (w5'.alloc (WsObj [⟨#[80, 69, 82, 83, 73, 83, 84]⟩, kk])) (RunEnd w0 ((xc, ValObj 3 ByteArray.empty vc (.slice a5 0 c5)) :: ((xb, ValObj 3 ByteArray.empty vb (.slice a4 0 c4)) :: ((xa, ValObj 3 ByteArray.empty 1 (.slice a3 0 c3)) :: (r)))) sb { eLast long wait with ev := ev } 3 ByteArray.empty vd []) := by
    have q := xrun_PERSIST S5' hG.out hX5 (eAt_ok long wait) (by decide) etimes_PERSIST wait (by omega)
    rw [hq] at q
    exact q
  replace hdo := hid hdo
  clear S5' hX5
  go_wp2_with fail
  refine hdo.out.mono ?_
  rintro e w6 ⟨a6, c6, ev6, xl6, el6, l6, rfl, hxl6, hev6, hX6, S6⟩
  clear hdo hxl6
  clear hq
  replace S6 := S6.told
  replace hX6 : IsStore l6 sb (eLast long wait) := by
    have q := hX6
    rw [St.told_self (eLast_ev long wait)] at q
    exact q
  clear hev6
  unfold ansVal
  go_upto_region 10 with fail
  have S6' := S6.alloc (ValObj 3 ByteArray.empty vd (.slice a6 0 c6))
  generalize hw : w6.alloc _ = w6'
  replace S6' : Step w0 [] w6' _ := hw ▸ S6'
  clear hw S6
  generalize w6.heap.size = xd at S6' ⊢
  replace S6' := S6'.permR (l2 := l6 ++ ((xd, ValObj 3 ByteArray.empty vd (.slice a6 0 c6)) :: ((xc, ValObj 3 ByteArray.empty vc (.slice a5 0 c5)) :: ((xb, ValObj 3 ByteArray.empty vb (.slice a4 0 c4)) :: ((xa, ValObj 3 ByteArray.empty 1 (.slice a3 0 c3)) :: (r)))))) (perm_by fun f => by simp only [List.map_append, List.sum_append, List.map_cons, List.sum_cons, List.map_nil, List.sum_nil]; omega)
  have hq := q_ttl2 long wait
  obtain ⟨ve, hve⟩ : ∃ ve : Int, ve = if long ≤ wait then -2 else -1 := ⟨_, rfl⟩
  rw [← hve] at hq
  replace hve := hid hve
  have hdo : Calls Tryz.prog 10 #[ptr sb, .int .i64 wait, .slice (some ⟨w6'.heap.size, 0, none⟩) 2 2] (w6'.alloc (WsObj [⟨#[84, 84, 76]⟩, kk])) (RunEnd w0 ((xd, ValObj 3 ByteArray.empty vd (.slice a6 0 c6)) :: ((xc, ValObj 3 ByteArray.empty vc (.slice a5 0 c5)) :: ((xb, ValObj 3 ByteArray.empty vb (.slice a4 0 c4)) :: ((xa, ValObj 3 ByteArray.empty 1 (.slice a3 0 c3)) :: (r))))) sb (eLast long wait) 3 ByteArray.empty ve []) := by
    have q := xrun_TTL S6' hG.out hX6 (eLast_ok long wait) (by decide) etimes_TTL wait (by omega) (q_hr3 long wait)
    rw [hq] at q
    exact q
  replace hdo := hid hdo
  clear S6' hX6
  go_wp2_with fail
  refine hdo.out.mono ?_
  rintro e w7 ⟨a7, c7, ev7, xl7, el7, l7, rfl, hxl7, hev7, hX7, S7⟩
  clear hdo hxl7
  clear hq hX7 hev7
  replace S7 := S7.told
  unfold ansVal
  go_upto_region 11 with fail
  have S7' := S7.alloc (ValObj 3 ByteArray.empty ve (.slice a7 0 c7))
  generalize hw : w7.alloc _ = w7'
  replace S7' : Step w0 [] w7' _ := hw ▸ S7'
  clear hw S7
  generalize w7.heap.size = xe at S7' ⊢
  have xa2 : w7'.cell? ⟨xa, 2, none⟩ = some (.int .i64 1) := cells_get (S7'.own.at_ (xa, ValObj 3 ByteArray.empty 1 (.slice a3 0 c3)) (by simp)) 2
  have xb2 : w7'.cell? ⟨xb, 2, none⟩ = some (.int .i64 vb) := cells_get (S7'.own.at_ (xb, ValObj 3 ByteArray.empty vb (.slice a4 0 c4)) (by simp)) 2
  have xc2 : w7'.cell? ⟨xc, 2, none⟩ = some (.int .i64 vc) := cells_get (S7'.own.at_ (xc, ValObj 3 ByteArray.empty vc (.slice a5 0 c5)) (by simp)) 2
  have xd2 : w7'.cell? ⟨xd, 2, none⟩ = some (.int .i64 vd) := cells_get (S7'.own.at_ (xd, ValObj 3 ByteArray.empty vd (.slice a6 0 c6)) (by simp)) 2
  have xe2 : w7'.cell? ⟨xe, 2, none⟩ = some (.int .i64 ve) := cells_get (S7'.own.at_ (xe, ValObj 3 ByteArray.empty ve (.slice a7 0 c7)) (by simp)) 2
  have S9 := hid (S7'.pick (l2 := r) (m := l7 ++ [(xe, ValObj 3 ByteArray.empty ve (.slice a7 0 c7)), (xd, ValObj 3 ByteArray.empty vd (.slice a6 0 c6)), (xc, ValObj 3 ByteArray.empty vc (.slice a5 0 c5)), (xb, ValObj 3 ByteArray.empty vb (.slice a4 0 c4)), (xa, ValObj 3 ByteArray.empty 1 (.slice a3 0 c3))]) (perm_by fun f => by simp only [List.map_append, List.sum_append, List.map_cons, List.sum_cons, List.map_nil, List.sum_nil]; omega))
  clear S7'
  by_cases hlw : long ≤ wait
  · obtain rfl : vb = -2 := by rw [hvb.out, if_pos hlw]
    obtain rfl : vc = -2 := by rw [hvc.out, if_pos hlw]
    obtain rfl : vd = 0 := by rw [hvd.out]; simp [hlw]
    obtain rfl : ve = -2 := by rw [hve.out, if_pos hlw]
    have h1 : (long : Int) - (wait : Int) ≤ 0 := by omega
    have h2 : -65535 ≤ (long : Int) - (wait : Int) := by omega
    clear hvb hvc hvd hve hlw
    go_wp2_with fail
    go_ret
    exact ⟨rfl, S9.out⟩
  · obtain rfl : vb = (long : Int) - wait := by rw [hvb.out, if_neg hlw]
    obtain rfl : vd = 1 := by rw [hvd.out]; simp [hlw]
    obtain rfl : ve = -1 := by rw [hve.out, if_neg hlw]
    have h1 : ¬ (long : Int) - (wait : Int) ≤ 0 := by omega
    have h2 : (long : Int) - (wait : Int) ≤ 65535 := by omega
    have h3 : 0 < (long : Int) - (wait : Int) := by omega
    have h4 : ¬ (long : Int) = 0 := by omega
    have h4b : ((long : Int) == 0) = false := by simpa using h4
    have hn := secs_near ((long : Int) - wait) h3
    have hvc2 := hvc.out
    rw [if_neg hlw] at hvc2
    rw [← hvc2] at hn
    obtain ⟨n1, n2⟩ := hn
    have n3 : 0 ≤ vc := by omega
    have n4 : vc ≤ 100 := by omega
    clear hvb hvc hvc2 hvd hve hlw
    go_wp2_with fail
    go_ret
    exact ⟨rfl, S9.out⟩

end Go.Proofs.YthfngplckbggpaaGreatDoor
