/-
  texts: addText.
-/
import Derived.Test.YthfngplckbggpaaGreatDoorP25
set_option linter.unusedVariables false
set_option linter.unusedSimpArgs false
namespace Go.Proofs.YthfngplckbggpaaGreatDoor
open Go Go.RowKit

theorem wneg_fit {n : Int} (h1 : -9223372036854775808 ≤ n) (h2 : n ≤ 9223372036854775807) : -9223372036854775808 ≤ wneg n ∧ wneg n ≤ 9223372036854775807 := by
  unfold wneg; split <;> omega
theorem wnegErr_cases (n : Int) : wnegErr n = 0 ∨ wnegErr n = 12 := by unfold wnegErr; split <;> simp

theorem Ctx.at {w0 w w' : World} {l r r' : Hp} {sb : Nat} {S : St} {g off : Nat} {ws : List ByteArray} (h : Ctx w0 w l r sb S g off ws) {x : Hp} (hr : r' = x ++ r) (hS : Step w0 [] w' (l ++ r')) : Ctx w0 w' l r' sb S g off ws :=
  ⟨hS, h.gl, h.is, h.tight, h.load, by rw [hr]; exact h.args.more⟩

set_option maxRecDepth 100000 in
set_option maxHeartbeats 2000000 in
theorem addText_job {w0 w : World} {l r : Hp} {sb : Nat} {S : St} {g off : Nat} {k m : ByteArray} {ws : List ByteArray} (h : Ctx w0 w l r sb S g off (k :: m :: ws)) (now : Int) (cap : Nat) (less : Bool) :
    Calls Tryz.prog 50 #[jobVal sb now g off (k :: m :: ws).length cap, .bool less] w (StPost w0 r sb (tAddText S now k m less).1 (lfVal (tAddText S now k m less).2)) := by
  have H := (h.alloc (JobObj sb now g off (k :: m :: ws).length cap)).alloc ZeroVal
  have hm := h.args.small m (by simp)
  have hn : (1 : Int) < (((k :: m :: ws).length : Nat) : Int) := by simp only [List.length_cons]; omega
  generalize hlen : (k :: m :: ws).length = n at H hn ⊢
  replace hlen := hid hlen
  have hn2 : 1 < n := by omega
  generalize hT : tAddText S now k m less = T
  replace hT := hid hT
  clear h
  replace H := hid H
  go_enter Tryz.func50, Tryz.ntmps50
  unfold jobVal
  go_upto_region 1 with fail
  generalize hw1 : (w.alloc _).alloc _ = w1
  replace H : Ctx w0 w1 _ _ _ _ _ _ _ := hw1 ▸ H.out
  clear hw1
  simp only [World.size_alloc] at H
  generalize w.heap.size = b at H ⊢
  have hjob := hid (Ctx.job (A := [(b + 1, ZeroVal)]) H)
  obtain ⟨R, hR⟩ : ∃ R, R = [(b + 1, ZeroVal)] ++ (b, JobObj sb now g off n cap) :: r := ⟨_, rfl⟩
  rw [← hR] at hjob
  replace H : Ctx w0 w1 l R sb S g off (k :: m :: ws) := hR ▸ H
  obtain ⟨j0, j1, j2⟩ := hjob.out.at_ w1 ⟨l, H.st⟩
  have ja := hjob.out.arg w1 ⟨l, H.st⟩ 1 m rfl
  have hpar := hid (wparse_any H.st H.gl m hm)
  have hend : ∀ (w' : World) (l3 : Hp) (a' : Lf), Step w0 [] w' (l3 ++ R) → Step w0 [] _ (l3 ++ r) := fun w' l3 a' h => ((h.permR (l2 := (b + 1, ZeroVal) :: (l3 ++ r ++ [(b, JobObj sb now g off n cap)])) (perm_by fun f => by
    rw [hR]; simp only [List.map_append, List.sum_append, List.map_cons, List.sum_cons, List.map_nil, List.sum_nil]; omega)).setLf a').less (List.sublist_append_left _ _)
  have hres : (b + 1, ZeroVal) ∈ R := by rw [hR]; simp
  replace H := hid H
  replace hR := hid hR
  cases hw : wnum m with
  | none =>
    have e : Hid (T = (S, lfErr 11)) := hid (by rw [← hT.out]; simp only [tAddText, hw])
    rw [hw] at hpar
    have e1 : wcode none = 11 := rfl
    rw [e1, Option.getD_none] at hpar
    clear hT hw hjob e1
    go_wp2_with fail
    refine hpar.out.mono ?_
    rintro e2 w2 ⟨rfl, S2⟩
    have herr := hid (tfail_any S2 11 (by unfold errKnown; omega))
    clear hpar S2 j0 j1 j2 ja
    unfold lfErr at e
    generalize errText 11 = te at herr e
    go_wp2_with fail
    refine herr.out.mono ?_
    rintro e2 w3 ⟨rfl, S5⟩
    have S9 := hid (hend w3 l ⟨2, te, 0⟩ S5)
    obtain ⟨⟨c0, hc0⟩, ⟨c1, hc1⟩, ⟨c2, hc2⟩, ⟨c3, hc3⟩, ⟨c4, hc4⟩, ⟨c5, hc5⟩, fz, hlt⟩ := cells6' (S5.own.right.at_ _ hres)
    clear herr S5 hend hres hR
    unfold ansVal
    go_wp2_with fail
    refine bodyPost_ret (v := lfVal ⟨2, te, 0⟩) (by simp [results, Tryz.results50, go_sem, ansVal, lfVal, *] <;> rfl) rfl ?_
    rw [e.out]
    exact ⟨rfl, l, H.out.is, S9.out⟩
  | some x =>
    obtain ⟨hx1, hx2⟩ := wnum_bounds hw
    rw [hw] at hpar
    have e1 : wcode (some x) = 0 := rfl
    rw [e1, Option.getD_some] at hpar
    -- the sum, with whatever is added
    have hadd : ∀ (w2 : World) (y : Int), -9223372036854775808 ≤ y ∧ y ≤ 9223372036854775807 → Step w0 [] w2 (l ++ R) → Calls Tryz.prog 49 #[jobVal sb now g off n cap, .int .i64 y] w2 (StPost w0 R sb (tAdd S now k y).1 (lfVal (tAdd S now k y).2)) := fun w2 y hy hS => by
      have := add_job (H.out.at (x := []) rfl hS) now cap y hy
      rw [hlen.out] at this
      exact this
    unfold jobVal at hadd
    clear e1
    cases less with
    | false =>
      have e : Hid (T = tAdd S now k x) := hid (by rw [← hT.out]; simp only [tAddText, hw]; rfl)
      clear hT hw
      go_wp2_with fail
      refine hpar.out.mono ?_
      rintro e2 w2 ⟨rfl, S2⟩
      obtain ⟨j0, j1, j2⟩ := hjob.out.at_ w2 ⟨l, S2⟩
      have ha := hadd w2 x ⟨hx1, hx2⟩ S2
      rw [← e.out] at ha
      unfold lfVal ansVal at ha
      replace ha := hid ha
      clear hpar S2 ja hadd hjob hx1 hx2
      go_wp2_with fail
      refine ha.out.mono ?_
      rintro e2 w3 ⟨rfl, l5, hX5, S5⟩
      have S9 := hid (hend w3 l5 T.2 S5)
      obtain ⟨⟨c0, hc0⟩, ⟨c1, hc1⟩, ⟨c2, hc2⟩, ⟨c3, hc3⟩, ⟨c4, hc4⟩, ⟨c5, hc5⟩, fz, hlt⟩ := cells6' (S5.own.right.at_ _ hres)
      clear ha S5 hend hres hR
      go_wp2_with fail
      refine bodyPost_ret (v := lfVal T.2) (by simp [results, Tryz.results50, go_sem, ansVal, lfVal, *] <;> rfl) rfl ?_
      exact ⟨rfl, l5, hX5, S9.out⟩
    | true =>
      have hneg : ∀ w2, Hid _ := fun w2 => hid (wneg_any w2 x hx1 hx2)
      have hfit := wneg_fit hx1 hx2
      rcases wnegErr_cases x with hc | hc
      · have e : Hid (T = tAdd S now k (wneg x)) := hid (by rw [← hT.out]; simp only [tAddText, hw, hc]; rfl)
        rw [hc] at hneg
        clear hT hw hc
        go_wp2_with fail
        refine hpar.out.mono ?_
        rintro e2 w2 ⟨rfl, S2⟩
        obtain ⟨j0, j1, j2⟩ := hjob.out.at_ w2 ⟨l, S2⟩
        have ha := hadd w2 (wneg x) hfit S2
        rw [← e.out] at ha
        unfold lfVal ansVal at ha
        replace ha := hid ha
        clear hpar S2 ja hadd hjob hfit
        go_wp2_with fail
        refine (hneg _).out.mono ?_
        rintro e2 w3 ⟨rfl, rfl⟩
        clear hneg hx1 hx2
        go_wp2_with fail
        refine ha.out.mono ?_
        rintro e2 w3 ⟨rfl, l5, hX5, S5⟩
        have S9 := hid (hend w3 l5 T.2 S5)
        obtain ⟨⟨c0, hc0⟩, ⟨c1, hc1⟩, ⟨c2, hc2⟩, ⟨c3, hc3⟩, ⟨c4, hc4⟩, ⟨c5, hc5⟩, fz, hlt⟩ := cells6' (S5.own.right.at_ _ hres)
        clear ha S5 hend hres hR
        go_wp2_with fail
        refine bodyPost_ret (v := lfVal T.2) (by simp [results, Tryz.results50, go_sem, ansVal, lfVal, *] <;> rfl) rfl ?_
        exact ⟨rfl, l5, hX5, S9.out⟩
      · have e : Hid (T = (S, lfErr 12)) := hid (by rw [← hT.out]; simp only [tAddText, hw, hc]; rfl)
        rw [hc] at hneg
        clear hT hw hc
        go_wp2_with fail
        refine hpar.out.mono ?_
        rintro e2 w2 ⟨rfl, S2⟩
        have herr := hid (tfail_any S2 12 (by unfold errKnown; omega))
        unfold lfErr at e
        generalize errText 12 = te at herr e
        clear hpar S2 ja hadd hjob hfit j0 j1 j2
        go_wp2_with fail
        refine (hneg _).out.mono ?_
        rintro e2 w3 ⟨rfl, rfl⟩
        clear hneg hx1 hx2
        go_wp2_with fail
        refine herr.out.mono ?_
        rintro e2 w3 ⟨rfl, S5⟩
        have S9 := hid (hend w3 l ⟨2, te, 0⟩ S5)
        obtain ⟨⟨c0, hc0⟩, ⟨c1, hc1⟩, ⟨c2, hc2⟩, ⟨c3, hc3⟩, ⟨c4, hc4⟩, ⟨c5, hc5⟩, fz, hlt⟩ := cells6' (S5.own.right.at_ _ hres)
        clear herr S5 hend hres hR
        unfold ansVal
        go_wp2_with fail
        refine bodyPost_ret (v := lfVal ⟨2, te, 0⟩) (by simp [results, Tryz.results50, go_sem, ansVal, lfVal, *] <;> rfl) rfl ?_
        rw [e.out]
        exact ⟨rfl, l, H.out.is, S9.out⟩

end Go.Proofs.YthfngplckbggpaaGreatDoor
