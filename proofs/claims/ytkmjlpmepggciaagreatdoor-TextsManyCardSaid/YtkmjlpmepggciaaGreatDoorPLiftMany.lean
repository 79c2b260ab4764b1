/-
  TextsMany, lifted: whatever pairs there are: the law answers true, and what was there stays as it was.
-/
import Derived.Test.YtkmjlpmepggciaaGreatDoorP32
import Derived.Test.YtkmjlpmepggciaaGreatDoorPManySpec
import Derived.Test.YtkmjlpmepggciaaGreatDoorChecked
import Derived.WalkKit
import Derived.ProofKit
import Derived.OpenShut
import Derived.Lay
import Derived.LaidOnce
import Derived.SevenTiedAt
set_option linter.unusedVariables false
set_option linter.unusedSimpArgs false
namespace Go.Proofs.YtkmjlpmepggciaaGreatDoor
open Go Go.RowKit Go.ChangeShapes Go.WideShapes Go.ChangeAt

theorem Step.sameAt {W W' : World} (h : Step W [] W' []) {p : MemPlace} (hp : p.block < W.heap.size) : W.sameAt W' p := by
  have e : W'.heap[p.block]? = W.heap[p.block]? := h.same p.block hp (by simp [keys])
  cases p with
  | cell b o => exact World.cell?_of_block (w := W) e
  | map b => exact e

section
variable {H : Type} {enc : TypeId × Value → H} {w : World} {base : Nat} {spare : Nat → Bool} {held : Bool}
/-- A pair of texts, read. -/
theorem open_pair {b : Addr} {n : Nat} {y : DataW H × List MemPlace} (h : (w.cells? base b 2).bind (DataW.trod enc Tryz.prog w base spare held n 53) = some y) :
    ∃ p : ByteArray × ByteArray, w.cell? b = some (.string p.1) ∧ w.cell? (b.add 1) = some (.string p.2) := by
  rw [Option.bind_eq_some_iff] at h
  obtain ⟨cs, hcs, hy⟩ := h
  obtain ⟨xs, m, _, _, hl, hxl, hx⟩ := DataW.trod_array Tryz.underlying53 hy
  have hc1 : Tryz.prog.cellsOf 9 = 1 := by kernel_rfl
  have hs : ∀ j, j < 2 → ∃ s, (cs.drop j).take 1 = [.string s] := fun j hj => by
    have h1 := hx j hj
    rw [hc1, Nat.mul_one, List.getElem?_eq_getElem (by omega)] at h1
    obtain ⟨s, h2, _, _⟩ := DataW.trod_string Tryz.underlying9 h1
    exact ⟨s, h2⟩
  obtain ⟨s0, h0⟩ := hs 0 (by omega)
  obtain ⟨s1, h1⟩ := hs 1 (by omega)
  unfold World.cells? at hcs
  split at hcs
  · simp only [show List.range 2 = [0, 1] from rfl, List.mapM_cons, List.mapM_nil, Option.bind_eq_bind, Option.bind_eq_some_iff, Option.pure_def, Option.some.injEq] at hcs
    obtain ⟨c0, e0, q, ⟨c1, e1, q2, rfl, rfl⟩, rfl⟩ := hcs
    simp only [List.drop_zero, List.take_succ_cons, List.take_zero, List.cons.injEq, and_true, List.drop_succ_cons] at h0 h1
    subst h0; subst h1
    exact ⟨(s0, s1), e0, e1⟩
  · cases hcs
theorem open_pairs {a : Addr} {len n : Nat} {elems : List (DataW H × List MemPlace)} (hlen : elems.length = len) (hel : ∀ i, i < len → (w.cells? base (a.add (i * Tryz.prog.cellsOf 53)) (Tryz.prog.cellsOf 53)).bind (DataW.trod enc Tryz.prog w base spare held n 53) = elems[i]?) :
    ∃ l : List (ByteArray × ByteArray), l.length = len ∧ ∀ i p, l[i]? = some p → w.cell? (a.add (i * 2)) = some (.string p.1) ∧ w.cell? ((a.add (i * 2)).add 1) = some (.string p.2) := by
  have hc2 : Tryz.prog.cellsOf 53 = 2 := by kernel_rfl
  rw [hc2] at hel
  have h : ∀ i, ∃ p : ByteArray × ByteArray, i < len → w.cell? (a.add (i * 2)) = some (.string p.1) ∧ w.cell? ((a.add (i * 2)).add 1) = some (.string p.2) := fun i => by
    by_cases hi : i < len
    · have h1 := hel i hi
      rw [List.getElem?_eq_getElem (by omega)] at h1
      obtain ⟨p, hp⟩ := open_pair h1
      exact ⟨p, fun _ => hp⟩
    · exact ⟨(ByteArray.empty, ByteArray.empty), fun h => absurd h hi⟩
  refine ⟨(List.range len).map fun i => (h i).choose, by simp, fun i p hp => ?_⟩
  rw [List.getElem?_map] at hp
  have hi : i < len := by
    rcases Nat.lt_or_ge i len with hi | hi
    · exact hi
    · rw [List.getElem?_eq_none (by simpa using hi)] at hp; cases hp
  rw [List.getElem?_eq_getElem (by simpa using hi), Option.map_some, Option.some.injEq, List.getElem_range] at hp
  rw [← hp]
  exact (h i).choose_spec hi
end

set_option maxRecDepth 100000 in
theorem manyLifted (os : Os) (started : os.Started) (H : Type) (enc : TypeId × Value → H) :
    ReturnsInHanded {} Tryz.checked os 7 .any (fun w args => (Rows.textsManySpec.pre enc Tryz.prog Tryz.f7 [] false w args ∧ laidMetH Tryz.prog Rows.textsManyRow.laid w) ∧ sizedMet enc Tryz.prog Tryz.f7 (OpenSpec.ofChange Rows.textsManySpec) false w args)
      (Rows.textsManySpec.post enc Tryz.prog Tryz.f7 false true false false) := by
  refine returnsInHanded_of_change_and (C := Tryz.checked) (X := fun w _ => laidMetH Tryz.prog Rows.textsManyRow.laid w) (fun _ _ _ hh h => h.of_heap hh) ownNone started (by kernel_rfl) Tryz.func7
    (ChangeSpec.witness_shaped (enc := enc) (C := Tryz.checked) (os := os) (X := fun w _ => laidMetH Tryz.prog Rows.textsManyRow.laid w) false (World.laidAll Tryz.prog os Rows.textsManyRow.laid) #[.slice none 0 0] 8 (World.laidAll_os _ _ _)
      (World.shaped_of_ZipB (by kernel_rfl) (by kernel_rfl)) (by kernel_rfl) (by kernel_rfl) (by kernel_rfl)
      (by rw [MakeChecks.laidMetH_plain _ _ _ (by kernel_rfl)]; exact laidMet_laidAll _ (by kernel_rfl) (by kernel_rfl))) ?_
  intro W base args ds gs before hval0 hW _ _ hL _
  have hval : ∀ (j : Nat) t v, Tryz.f7.params[j]? = some t → args[j]? = some v → Value.okWide Tryz.prog W .any base t v := hval0
  have hW' := hW
  obtain ⟨p, q, hA0, hV, rfl, _, _⟩ := hW
  have hA : DataW.TrodAll enc Tryz.prog W 0 (fun _ => true) true Tryz.f7.params.toList args.toList ds p := hA0
  rw [Tryz.params7] at hA hval
  obtain ⟨v0, d0, hargs, rfl, h0⟩ := trodAll_one hA
  obtain rfl : args = #[v0] := by cases args; simp_all
  obtain ⟨rfl, rfl⟩ := trodVars_none hV
  obtain ⟨a0, len, cap, rfl⟩ := okWide_slice Tryz.underlying51 (hval 0 51 v0 rfl rfl)
  have h0k := h0
  obtain ⟨fuel, hf⟩ := h0
  clear hA0 hval0
  simp only [List.append_nil] at hW'
  have hlt : ∀ x ∈ p, x.block < W.heap.size := fun x hx => by simpa using hW'.lt x hx
  rw [MakeChecks.laidMetH_plain _ _ _ (by kernel_rfl)] at hL
  have hG : Glob W := glob_of hL.tail.tail.tail.tail.tail.tail.tail.tail hL.tail.tail.tail.tail.tail.tail.tail.tail.tail.tail hL.tail.tail.tail.tail.tail.tail.tail.tail.tail.tail.tail
  have hcall : Calls Tryz.prog 7 #[.slice a0 len cap] W (fun e w' => e = .returned (.bool true) ∧ Step W [] w' []) := by
    rcases DataW.trod_slice Tryz.underlying51 hf with ⟨hcs, _⟩ | ⟨a, len', cap', elems, rest, n, _, hcs, _, _, hl, hm, hlen, hel, _, _⟩
    · simp [Value.cells] at hcs
      obtain ⟨rfl, rfl, rfl⟩ := hcs
      exact lawMany_nil (Step.start W) hG _ _
    · simp [Value.cells] at hcs
      obtain ⟨rfl, rfl, rfl⟩ := hcs
      obtain ⟨l, hll, hlp⟩ := open_pairs hlen hel
      by_cases h0 : len = 0
      · subst h0
        exact lawMany_nil (Step.start W) hG _ _
      · obtain ⟨g, off, q⟩ := a
        obtain ⟨p0, hp0⟩ : ∃ p0, l[0]? = some p0 := ⟨l[0]'(by omega), List.getElem?_eq_getElem _⟩
        have hc0 : W.cell? ⟨g, off, q⟩ = some (.string p0.1) := by
          have := (hlp 0 p0 hp0).1
          rwa [Nat.zero_mul] at this
        obtain rfl : q = none := World.cell?_spot hc0
        have hgl : g < W.heap.size := by
          rcases Nat.lt_or_ge g W.heap.size with h | h
          · exact h
          · have e : W.heap[g]? = none := Array.getElem?_eq_none h
            simp [World.cell?, e] at hc0
        have hpa : PairsAt W g off l := fun i p hp => by
          have h1 := hlp i p hp
          rw [addr_add, addr_add] at h1
          exact h1
        have := lawMany_some (Step.start W) hG g off l cap hpa hgl (by omega) (by unfold maxLen at hm; omega)
        rw [hll] at this
        exact this
  refine hcall.mono fun e W' ⟨he, hb⟩ => ?_
  subst he
  have hargs' : DataW.Trod enc Tryz.prog W' 0 (fun b => decide (b < W.heap.size)) true 51 (.slice a0 len cap) d0 p :=
    WideElems.Trod_stays (by kernel_rfl) (by kernel_rfl) (of_decide_eq_true (by kernel_rfl)) h0k (fun x hx => hb.sameAt (hlt x hx)) (fun x hx => by simpa using hlt x hx)
  exact ⟨_, rfl, _, _, _, [], p, [], hW', trodAll_mk1 (shut_bool Tryz.underlying4 _), trodAll_mk1 hargs', rfl, hb.kept _, fun h => by cases h⟩

end Go.Proofs.YtkmjlpmepggciaaGreatDoor
