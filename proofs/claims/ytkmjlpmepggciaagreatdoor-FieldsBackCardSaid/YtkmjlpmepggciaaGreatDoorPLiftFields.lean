/-
  FieldsBack, lifted: whatever names and text there are: the law answers true, and what was there stays as it was.
-/
import Derived.Test.YtkmjlpmepggciaaGreatDoorP32
import Derived.Test.YtkmjlpmepggciaaGreatDoorPLawFields
import Derived.Test.YtkmjlpmepggciaaGreatDoorChecked
import Derived.SliceStrings
import Derived.WalkKit
import Derived.ProofKit
import Derived.OpenShut
import Derived.Lay
import Derived.LaidOnce
import Derived.SevenTiedAt
set_option linter.unusedVariables false
set_option linter.unusedSimpArgs false
namespace Go.Proofs.YtkmjlpmepggciaaGreatDoor
open Go Go.RowKit Go.ChangeShapes Go.WideShapes Go.ChangeAt

theorem Step.sameAtF {W W' : World} (h : Step W [] W' []) {p : MemPlace} (hp : p.block < W.heap.size) : W.sameAt W' p := by
  have e : W'.heap[p.block]? = W.heap[p.block]? := h.same p.block hp (by simp [keys])
  cases p with
  | cell b o => exact World.cell?_of_block (w := W) e
  | map b => exact e

set_option maxRecDepth 100000 in
theorem fieldsLifted (os : Os) (started : os.Started) (H : Type) (enc : TypeId × Value → H) :
    ReturnsInHanded {} Tryz.checked os 3 .any (fun w args => (Rows.fieldsBackSpec.pre enc Tryz.prog Tryz.f3 [] false w args ∧ laidMetH Tryz.prog Rows.fieldsBackRow.laid w) ∧ sizedMet enc Tryz.prog Tryz.f3 (OpenSpec.ofChange Rows.fieldsBackSpec) false w args)
      (Rows.fieldsBackSpec.post enc Tryz.prog Tryz.f3 false true false false) := by
  refine returnsInHanded_of_change_and (C := Tryz.checked) (X := fun w _ => laidMetH Tryz.prog Rows.fieldsBackRow.laid w) (fun _ _ _ hh h => h.of_heap hh) ownNone started (by kernel_rfl) Tryz.func3
    (ChangeSpec.witness_shaped (enc := enc) (C := Tryz.checked) (os := os) (X := fun w _ => laidMetH Tryz.prog Rows.fieldsBackRow.laid w) false (World.laidAll Tryz.prog os Rows.fieldsBackRow.laid) #[.slice none 0 0, .string ByteArray.empty] 8 (World.laidAll_os _ _ _)
      (World.shaped_of_ZipB (by kernel_rfl) (by kernel_rfl)) (by kernel_rfl) (by kernel_rfl) (by kernel_rfl)
      (by rw [MakeChecks.laidMetH_plain _ _ _ (by kernel_rfl)]; exact laidMet_laidAll _ (by kernel_rfl) (by kernel_rfl))) ?_
  intro W base args ds gs before hval0 hW _ _ hL _
  have hval : ∀ (j : Nat) t v, Tryz.f3.params[j]? = some t → args[j]? = some v → Value.okWide Tryz.prog W .any base t v := hval0
  have hW' := hW
  obtain ⟨p, q, hA0, hV, rfl, _, _⟩ := hW
  have hA : DataW.TrodAll enc Tryz.prog W 0 (fun _ => true) true Tryz.f3.params.toList args.toList ds p := hA0
  rw [Tryz.params3] at hA hval
  obtain ⟨v0, vs0, d0, ds0, p0, q0, hargs, rfl, rfl, h0, r0⟩ := trodAll_cons hA
  obtain ⟨v1, vs1, d1, ds1, p1, q1, rfl, rfl, rfl, h1, r1⟩ := trodAll_cons r0
  obtain ⟨rfl, rfl, rfl⟩ := trodAll_nil r1
  obtain rfl : args = #[v0, v1] := by cases args; simp_all
  obtain ⟨rfl, rfl⟩ := trodVars_none hV
  obtain ⟨a0, len, cap, rfl⟩ := okWide_slice Tryz.underlying22 (hval 0 22 v0 rfl rfl)
  obtain ⟨text, rfl, rfl, rfl, wf1⟩ := Go.ChangeMaps.open_string Tryz.underlying9 (hval 1 9 v1 rfl rfl) h1
  have h0k := h0
  obtain ⟨fuel, hf⟩ := h0
  clear hA0 hval0
  simp only [List.append_nil] at hW'
  have hlt : ∀ x ∈ p0, x.block < W.heap.size := fun x hx => by simpa using hW'.lt x hx
  rw [MakeChecks.laidMetH_plain _ _ _ (by kernel_rfl)] at hL
  have hG : Glob W := glob_of hL.tail.tail hL.tail.tail.tail.tail hL.tail.tail.tail.tail.tail
  have hcall : Calls Tryz.prog 3 #[.slice a0 len cap, .string text] W (fun e w' => e = .returned (.bool true) ∧ Step W [] w' []) := by
    rcases open_strings Tryz.underlying22 Tryz.underlying9 (by kernel_rfl) hf with ⟨hcs, _⟩ | ⟨a, len', cap', ss, hcs, _, hl, hm, hz, _, hcell, _⟩
    · simp [Value.cells] at hcs
      obtain ⟨rfl, rfl, rfl⟩ := hcs
      exact lawFields_any (Step.start W) hG [] text none 0 0 rfl (Nat.le_refl _) (by decide) (fun h => absurd h (by decide))
    · simp [Value.cells] at hcs
      obtain ⟨rfl, rfl, rfl⟩ := hcs
      have hz2 : len ≤ ss.length := by rw [hz]; split <;> omega
      have hcap : cap ≤ 9223372036854775807 := by unfold maxLen at hm; omega
      by_cases h0 : len = 0
      · subst h0
        exact lawFields_any (Step.start W) hG [] text (some a) 0 cap rfl (Nat.zero_le _) hcap (fun h => absurd h (by decide))
      · obtain ⟨g, off, q⟩ := a
        have hc0 : W.cell? ⟨g, off, q⟩ = some (.string (ss.getD 0 ByteArray.empty)) := hcell 0 (by omega)
        obtain rfl : q = none := World.cell?_spot hc0
        have hgl : g < W.heap.size := by
          rcases Nat.lt_or_ge g W.heap.size with h | h
          · exact h
          · have e : W.heap[g]? = none := Array.getElem?_eq_none h
            simp [World.cell?, e] at hc0
        have hlen : (ss.take len).length = len := by rw [List.length_take]; omega
        refine lawFields_any (Step.start W) hG (ss.take len) text (some ⟨g, off, none⟩) len cap hlen hl hcap (fun _ => ⟨g, off, rfl, hgl, fun i s hi => ?_⟩)
        have hi2 : i < len := by
          have := (List.getElem?_eq_some_iff.1 hi).1
          omega
        have h1 := hcell i (by omega)
        rw [addr_add] at h1
        rw [List.getElem?_take_of_lt hi2] at hi
        rw [h1, List.getD_eq_getElem?_getD, hi]
        rfl
  refine hcall.mono fun e W' ⟨he, hb⟩ => ?_
  subst he
  have hargs' : DataW.Trod enc Tryz.prog W' 0 (fun b => decide (b < W.heap.size)) true 22 (.slice a0 len cap) d0 p0 :=
    WideElems.Trod_stays (by kernel_rfl) (by kernel_rfl) (of_decide_eq_true (by kernel_rfl)) h0k (fun x hx => hb.sameAtF (hlt x hx)) (fun x hx => by simpa using hlt x hx)
  have hback := trodAll_cons_mk hargs' (trodAll_cons_mk (Go.ChangeMaps.shut_string Tryz.underlying9 wf1) trodAll_mk0)
  simp only [List.append_nil] at hback
  exact ⟨_, rfl, _, _, _, [], p0, [], hW', trodAll_mk1 (shut_bool Tryz.underlying4 _), hback, rfl, hb.kept _, fun h => by cases h⟩

end Go.Proofs.YtkmjlpmepggciaaGreatDoor
