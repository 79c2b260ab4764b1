/-
  FieldsBack's statement: whatever names and text there are: the law answers true, and what was there stays as it was. The card is tied by the given tie.
-/
import Derived.Test.YtkmjlpmepggciaaGreatDoorPLiftFields
import Derived.Test.YtkmjlpmepggciaaGreatDoorPFactsFields
import Derived.Test.YtkmjlpmepggciaaGreatDoorCards
import Derived.Test.YtkmjlpmepggciaaGreatDoorTie
import Derived.SevenTiedAt
set_option linter.unusedVariables false
set_option linter.unusedSimpArgs false
namespace Go.Proofs.YtkmjlpmepggciaaGreatDoor
open Go Go.RowKit Go.ChangeShapes Go.WideShapes Go.ChangeAt

set_option maxHeartbeats 4000000 in
set_option maxRecDepth 100000 in
theorem fieldsOver : Rows.fieldsBackRow.holds Tryz.pinned (OpenSpec.ofChange Rows.fieldsBackSpec) :=
  OpenClaim.holds_of_wide 3 Tryz.f3 rfl rfl rfl rfl rfl rfl rfl ⟨rfl, rfl, rfl, rfl, rfl⟩ rfl rfl rfl rfl rfl (by as_aux_lemma => kernel_rfl) Tryz.func3 fieldsFacts
    (of_decide_eq_true (by as_aux_lemma => kernel_rfl)) (by unfold Func.isWrapper; first | (rw [if_pos (by decide +kernel)]; kernel_rfl) | (rw [if_neg (by decide +kernel)]; exact ⟨rfl, rfl⟩))
    (fun os started H enc _ => fieldsLifted os started H enc)

set_option maxHeartbeats 4000000 in
set_option maxRecDepth 100000 in
theorem fieldsBack_card : Rows.FieldsBackCardSaid :=
  Claim7.holds_tied_plain_at .later [] [.data, .data, .data, .data, .sentinel, .sentinel, .pinned, .pinned] true (true, "f54b9bdfb56be64ce5a5bb4905a02f541adc98ae07f7da7b79409cd298d6976e") true fieldsOver (fun _ h => by cases h) (by as_aux_lemma => kernel_rfl) (fun _ h => by cases h) fieldsBack_row_tie rfl ⟨rfl, rfl⟩ (by as_aux_lemma => kernel_rfl) rfl
    (fun f fn hf hfn => by
      obtain rfl : f = 3 := Option.some.inj ((show Tryz.prog.funcNamed "nearhand/nearhandlaw19.FieldsBack" = some 3 by kernel_rfl).symm.trans hf) |>.symm
      obtain rfl : fn = Tryz.f3 := (Option.some.inj (Tryz.func3.symm.trans hfn)).symm
      exact ⟨by kernel_rfl, fun j t ht => by
        rw [Tryz.params3] at ht
        have hm : t ∈ [22, 9] := by simpa using Array.mem_of_getElem? ht
        have hall : ([22, 9].all fun u => !Tryz.prog.wantsStandIn u) = true := by kernel_rfl
        exact (show Tryz.prog.wantsStandIn t = false by simpa using List.all_eq_true.1 hall t hm)⟩)
    (by as_aux_lemma => kernel_rfl)

end Go.Proofs.YtkmjlpmepggciaaGreatDoor
