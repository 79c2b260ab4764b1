/-
  nearhandref01.Add, nearhandref18.When.
  nearhandlaw18: TextsWhen, the walk.
-/
import Derived.Test.YtkmjlpmepggciaaGreatDoorP32
set_option linter.unusedVariables false
set_option linter.unusedSimpArgs false
namespace Go.Proofs.YtkmjlpmepggciaaGreatDoor
open Go Go.RowKit

theorem half_of (a : Int) : a = 2 * a.tdiv 2 + a.tmod 2 ∧ -1 ≤ a.tmod 2 ∧ a.tmod 2 ≤ 1 ∧ (0 ≤ a → 0 ≤ a.tmod 2) ∧ (a ≤ 0 → a.tmod 2 ≤ 0) := by
  have h := Int.mul_tdiv_add_tmod a 2
  rcases Int.le_total 0 a with h1 | h1
  · have h2 := Int.tmod_nonneg 2 h1
    have h3 := Int.tmod_lt_of_pos a (show (0 : Int) < 2 by decide)
    refine ⟨h.symm, by omega, by omega, fun _ => h2, fun h4 => ?_⟩
    obtain rfl : a = 0 := by omega
    decide
  · have h2 := Int.tmod_nonneg 2 (show 0 ≤ -a by omega)
    have h3 := Int.tmod_lt_of_pos (-a) (show (0 : Int) < 2 by decide)
    rw [Int.neg_tmod] at h2 h3
    refine ⟨h.symm, by omega, by omega, fun h4 => ?_, fun _ => by omega⟩
    obtain rfl : a = 0 := by omega
    decide

set_option maxHeartbeats 1000000 in
theorem radd_any (a b : Int) (w : World) (ha : -9223372036854775808 ≤ a ∧ a ≤ 9223372036854775807) (hb : -9223372036854775808 ≤ b ∧ b ≤ 9223372036854775807) :
    Calls Tryz.prog 56 #[.int .i64 a, .int .i64 b] w fun e w' => e = .returned (.tuple #[.int .i64 ((wadd a b).getD 0), .int .i64 (wover (wadd a b))]) ∧ w' = w := by
  obtain ⟨a0, a1⟩ := ha
  obtain ⟨b0, b1⟩ := hb
  obtain ⟨h1, h2, h3, h1a, h1b⟩ := half_of a
  obtain ⟨h4, h5, h6, h4a, h4b⟩ := half_of b
  obtain ⟨h7, h8, h9, h7a, h7b⟩ := half_of (a.tmod 2 + b.tmod 2)
  obtain ⟨T, hT⟩ : ∃ T, T = wadd a b := ⟨_, rfl⟩
  obtain ⟨qa, hqa⟩ : ∃ q, a.tdiv 2 = q := ⟨_, rfl⟩
  obtain ⟨ra, hra⟩ : ∃ q, a.tmod 2 = q := ⟨_, rfl⟩
  obtain ⟨qb, hqb⟩ : ∃ q, b.tdiv 2 = q := ⟨_, rfl⟩
  obtain ⟨rb, hrb⟩ : ∃ q, b.tmod 2 = q := ⟨_, rfl⟩
  rw [hra, hrb] at h7 h8 h9 h7a h7b
  obtain ⟨qc, hqc⟩ : ∃ q, (ra + rb).tdiv 2 = q := ⟨_, rfl⟩
  obtain ⟨rc, hrc⟩ : ∃ q, (ra + rb).tmod 2 = q := ⟨_, rfl⟩
  rw [hqa, hra] at h1
  rw [hra] at h2 h3 h1a h1b
  rw [hqb, hrb] at h4
  rw [hrb] at h5 h6 h4a h4b
  rw [hqc, hrc] at h7
  rw [hrc] at h8 h9 h7a h7b
  rw [← hT]
  have hsum := hid (show a + b = 2 * (qa + qb + qc) + rc by omega)
  replace hT : Hid (T = if -9223372036854775808 ≤ a + b ∧ a + b ≤ 9223372036854775807 then some (a + b) else none) := hid hT
  have l1 : -4611686018427387904 ≤ qa := by omega
  have l2 : qa ≤ 4611686018427387903 := by omega
  have l3 : -4611686018427387904 ≤ qb := by omega
  have l4 : qb ≤ 4611686018427387903 := by omega
  have l5 : -1 ≤ qc := by omega
  have l6 : qc ≤ 1 := by omega
  have nob : Hid (-9223372036854775808 ≤ 2 * (qa + qb + qc) + rc → -4611686018427387904 ≤ qa + qb + qc ∧ ¬ (qa + qb + qc = -4611686018427387904 ∧ rc < 0)) := hid (by omega)
  have nou : Hid (4611686018427387903 < qa + qb + qc → 9223372036854775807 < 2 * (qa + qb + qc) + rc) := hid (by omega)
  have m1 : -9223372036854775808 ≤ qa + qb + qc := by omega
  have m2 : qa + qb + qc ≤ 9223372036854775807 := by omega
  rw [hsum.out] at hT
  replace h1 := hid h1
  replace h4 := hid h4
  replace h7 := hid h7
  clear h1a h1b h4a h4b h7a h7b
  by_cases c1 : 4611686018427387903 < qa + qb + qc
  · have hz : Hid (T = none) := hid (by rw [hT.out, if_neg (by have := nou.out c1; omega)])
    clear hT
    go_enter Tryz.func56, Tryz.ntmps56
    go_wp2_with fail
    go_ret2
    rw [hz.out]
    exact ⟨rfl, rfl⟩
  by_cases c2 : qa + qb + qc < -4611686018427387904
  · have hz : Hid (T = none) := hid (by rw [hT.out, if_neg (by omega)])
    clear hT
    go_enter Tryz.func56, Tryz.ntmps56
    go_wp2_with fail
    go_ret2
    rw [hz.out]
    exact ⟨rfl, rfl⟩
  by_cases c3 : qa + qb + qc = -4611686018427387904
  · by_cases c4 : rc < 0
    · have hz : Hid (T = none) := hid (by rw [hT.out, if_neg (by omega)])
      clear hT
      go_enter Tryz.func56, Tryz.ntmps56
      go_wp2_with fail
      go_ret2
      rw [hz.out]
      exact ⟨rfl, rfl⟩
    · have hz : Hid (T = some (-9223372036854775808 + rc)) := hid (by rw [hT.out, if_pos (by omega), c3]; exact congrArg some (by omega))
      clear hT
      go_enter Tryz.func56, Tryz.ntmps56
      go_wp2_with fail
      go_ret2
      rw [hz.out]
      exact ⟨rfl, rfl⟩
  · have hz : Hid (T = some (2 * (qa + qb + qc) + rc)) := hid (by rw [hT.out, if_pos (by omega)])
    clear hT
    go_enter Tryz.func56, Tryz.ntmps56
    go_wp2_with fail
    go_ret2
    rw [hz.out]
    exact ⟨rfl, rfl⟩

theorem rwhen_1 (now n : Int) (w : World) (h1 : -9223372036854775808 ≤ now ∧ now ≤ 9223372036854775807) (h2 : -9223372036854775808 ≤ n ∧ n ≤ 9223372036854775807) :
    Calls Tryz.prog 19 #[.int .i64 now, .int .i64 n, .int .i64 1] w fun e w' => e = .returned (.tuple #[.int .i64 (whenOf now n 1).1, .int .i64 (whenOf now n 1).2]) ∧ w = w' := by
  have hadd := hid (radd_any now n w h1 h2)
  have e1 : whenOf now n 1 = (match wadd now n with
    | none => (0, 111)
    | some t => if t < 0 ∨ 4611686018427387904 < t then (0, 111) else (t, 0)) := by
    unfold whenOf
    rw [if_neg (by simp only [Int.tdiv_one]; omega), Int.mul_one]
    rfl
  obtain ⟨T, hT⟩ : ∃ T, T = whenOf now n 1 := ⟨_, rfl⟩
  rw [← hT] at e1 ⊢
  replace e1 := hid e1
  clear hT
  obtain ⟨h3, h4⟩ := h2
  cases ha : wadd now n with
  | none =>
    rw [ha] at hadd e1
    have hz : Hid (T = (0, 111)) := hid e1.out
    clear e1 ha
    simp only [wover, Option.isSome_none, Bool.false_eq_true, if_false, Option.getD_none] at hadd
    go_enter Tryz.func19, Tryz.ntmps19
    go_wp2_with fail
    refine hadd.out.mono ?_
    rintro e w2 ⟨rfl, rfl⟩
    go_wp2_with fail
    go_ret2
    rw [hz.out]
    exact ⟨rfl, rfl⟩
  | some t =>
    rw [ha] at hadd e1
    simp only [wover, Option.isSome_some, if_true, Option.getD_some] at hadd
    simp only at e1
    clear ha
    by_cases h5 : t < 0
    · have hz : Hid (T = (0, 111)) := hid (by rw [e1.out, if_pos (.inl h5)])
      clear e1
      go_enter Tryz.func19, Tryz.ntmps19
      go_wp2_with fail
      refine hadd.out.mono ?_
      rintro e w2 ⟨rfl, rfl⟩
      go_wp2_with fail
      go_ret2
      rw [hz.out]
      exact ⟨rfl, rfl⟩
    · by_cases h6 : 4611686018427387904 < t
      · have hz : Hid (T = (0, 111)) := hid (by rw [e1.out, if_pos (.inr h6)])
        clear e1
        go_enter Tryz.func19, Tryz.ntmps19
        go_wp2_with fail
        refine hadd.out.mono ?_
        rintro e w2 ⟨rfl, rfl⟩
        go_wp2_with fail
        go_ret2
        rw [hz.out]
        exact ⟨rfl, rfl⟩
      · have hz : Hid (T = (t, 0)) := hid (by rw [e1.out, if_neg (by omega)])
        clear e1
        go_enter Tryz.func19, Tryz.ntmps19
        go_wp2_with fail
        refine hadd.out.mono ?_
        rintro e w2 ⟨rfl, rfl⟩
        go_wp2_with fail
        go_ret2
        rw [hz.out]
        exact ⟨rfl, rfl⟩

theorem rwhen_1000 (now n : Int) (w : World) (h1 : -9223372036854775808 ≤ now ∧ now ≤ 9223372036854775807) (h2 : -9223372036854775808 ≤ n ∧ n ≤ 9223372036854775807) :
    Calls Tryz.prog 19 #[.int .i64 now, .int .i64 n, .int .i64 1000] w fun e w' => e = .returned (.tuple #[.int .i64 (whenOf now n 1000).1, .int .i64 (whenOf now n 1000).2]) ∧ w = w' := by
  obtain ⟨T, hT⟩ : ∃ T, T = whenOf now n 1000 := ⟨_, rfl⟩
  obtain ⟨h3, h4⟩ := h2
  have d1 : (9223372036854775807 : Int).tdiv 1000 = 9223372036854775 := by decide
  have d2 : (-9223372036854775808 : Int).tdiv 1000 = -9223372036854775 := by decide
  by_cases g1 : 9223372036854775 < n
  · have hz : Hid (T = (0, 111)) := hid (by rw [hT]; unfold whenOf; rw [d1, if_pos (.inl g1)])
    rw [← hT]
    clear hT d1 d2
    go_enter Tryz.func19, Tryz.ntmps19
    go_wp2_with fail
    go_ret2
    rw [hz.out]
    exact ⟨rfl, rfl⟩
  by_cases g2 : n < -9223372036854775
  · have hz : Hid (T = (0, 111)) := hid (by rw [hT]; unfold whenOf; rw [d2, if_pos (.inr g2)])
    rw [← hT]
    clear hT d1 d2
    go_enter Tryz.func19, Tryz.ntmps19
    go_wp2_with fail
    go_ret2
    rw [hz.out]
    exact ⟨rfl, rfl⟩
  have h5 : -9223372036854775808 ≤ n * 1000 := by omega
  have h6 : n * 1000 ≤ 9223372036854775807 := by omega
  have hadd := hid (radd_any now (n * 1000) w h1 ⟨h5, h6⟩)
  have e1 : whenOf now n 1000 = (match wadd now (n * 1000) with
    | none => (0, 111)
    | some t => if t < 0 ∨ 4611686018427387904 < t then (0, 111) else (t, 0)) := by
    unfold whenOf
    rw [d1, d2, if_neg (by omega)]
    rfl
  rw [← hT] at e1 ⊢
  replace e1 := hid e1
  clear hT d1 d2
  cases ha : wadd now (n * 1000) with
  | none =>
    rw [ha] at hadd e1
    have hz : Hid (T = (0, 111)) := hid e1.out
    clear e1 ha
    simp only [wover, Option.isSome_none, Bool.false_eq_true, if_false, Option.getD_none] at hadd
    go_enter Tryz.func19, Tryz.ntmps19
    go_wp2_with fail
    refine hadd.out.mono ?_
    rintro e w2 ⟨rfl, rfl⟩
    go_wp2_with fail
    go_ret2
    rw [hz.out]
    exact ⟨rfl, rfl⟩
  | some t =>
    rw [ha] at hadd e1
    simp only [wover, Option.isSome_some, if_true, Option.getD_some] at hadd
    simp only at e1
    clear ha
    by_cases h7 : t < 0
    · have hz : Hid (T = (0, 111)) := hid (by rw [e1.out, if_pos (.inl h7)])
      clear e1
      go_enter Tryz.func19, Tryz.ntmps19
      go_wp2_with fail
      refine hadd.out.mono ?_
      rintro e w2 ⟨rfl, rfl⟩
      go_wp2_with fail
      go_ret2
      rw [hz.out]
      exact ⟨rfl, rfl⟩
    · by_cases h8 : 4611686018427387904 < t
      · have hz : Hid (T = (0, 111)) := hid (by rw [e1.out, if_pos (.inr h8)])
        clear e1
        go_enter Tryz.func19, Tryz.ntmps19
        go_wp2_with fail
        refine hadd.out.mono ?_
        rintro e w2 ⟨rfl, rfl⟩
        go_wp2_with fail
        go_ret2
        rw [hz.out]
        exact ⟨rfl, rfl⟩
      · have hz : Hid (T = (t, 0)) := hid (by rw [e1.out, if_neg (by omega)])
        clear e1
        go_enter Tryz.func19, Tryz.ntmps19
        go_wp2_with fail
        refine hadd.out.mono ?_
        rintro e w2 ⟨rfl, rfl⟩
        go_wp2_with fail
        go_ret2
        rw [hz.out]
        exact ⟨rfl, rfl⟩

end Go.Proofs.YtkmjlpmepggciaaGreatDoor

namespace Go.Proofs.YtkmjlpmepggciaaGreatDoor
open Go Go.RowKit

set_option maxRecDepth 100000 in
set_option maxHeartbeats 1500000 in
theorem lawWhen_any {w0 w : World} {r : Hp} (hS : Step w0 [] w r) (hG : Glob w0) (now n : Int) (long : Bool) (h1 : -9223372036854775808 ≤ now ∧ now ≤ 9223372036854775807) (h2 : -9223372036854775808 ≤ n ∧ n ≤ 9223372036854775807) :
    Calls Tryz.prog 5 #[.int .i64 now, .int .i64 n, .bool long] w (fun e w' => e = .returned (.bool true) ∧ Step w0 [] w' r) := by
  have halive := hid (alive_any hS hG)
  have hwh : ∀ (w' : World) (u : Int), Hid (u = 1 ∨ u = 1000 → Calls Tryz.prog 18 #[.int .i64 now, .int .i64 n, .int .i64 u] w' fun e w'' => e = .returned (.tuple #[.int .i64 (whenOf now n u).1, .int .i64 (whenOf now n u).2]) ∧ w' = w'') := fun w' u => hid (by
    rintro (rfl | rfl)
    · exact when_1 now n w' h1 h2
    · exact when_1000 now n w' h1 h2)
  have hrwh : ∀ (w' : World) (u : Int), Hid (u = 1 ∨ u = 1000 → Calls Tryz.prog 19 #[.int .i64 now, .int .i64 n, .int .i64 u] w' fun e w'' => e = .returned (.tuple #[.int .i64 (whenOf now n u).1, .int .i64 (whenOf now n u).2]) ∧ w' = w'') := fun w' u => hid (by
    rintro (rfl | rfl)
    · exact rwhen_1 now n w' h1 h2
    · exact rwhen_1000 now n w' h1 h2)
  obtain ⟨h3, h4⟩ := h1
  obtain ⟨h5, h6⟩ := h2
  clear hS hG
  go_enter Tryz.func5, Tryz.ntmps5
  go_wp2_with fail
  refine halive.out.mono ?_
  rintro e w1 ⟨rfl, S1⟩
  replace S1 := hid S1
  clear halive
  by_cases c1 : now < 0
  · go_wp2_with fail
    go_ret
    exact ⟨rfl, S1.out⟩
  by_cases c2 : 4611686018427387904 < now
  · go_wp2_with fail
    go_ret
    exact ⟨rfl, S1.out⟩
  cases long with
  | false =>
    have ha := hid ((hwh w1 1).out (.inl rfl))
    have hb := hid ((hrwh w1 1).out (.inl rfl))
    generalize whenOf now n 1 = q at ha hb
    clear hwh hrwh
    go_wp2_with fail
    refine ha.out.mono ?_
    rintro e w2 ⟨rfl, rfl⟩
    clear ha
    go_wp2_with fail
    refine hb.out.mono ?_
    rintro e w2 ⟨rfl, rfl⟩
    clear hb
    go_wp2_with fail
    go_ret
    exact ⟨rfl, S1.out⟩
  | true =>
    have ha := hid ((hwh w1 1000).out (.inr rfl))
    have hb := hid ((hrwh w1 1000).out (.inr rfl))
    generalize whenOf now n 1000 = q at ha hb
    clear hwh hrwh
    go_wp2_with fail
    refine ha.out.mono ?_
    rintro e w2 ⟨rfl, rfl⟩
    clear ha
    go_wp2_with fail
    refine hb.out.mono ?_
    rintro e w2 ⟨rfl, rfl⟩
    clear hb
    go_wp2_with fail
    go_ret
    exact ⟨rfl, S1.out⟩

end Go.Proofs.YtkmjlpmepggciaaGreatDoor
