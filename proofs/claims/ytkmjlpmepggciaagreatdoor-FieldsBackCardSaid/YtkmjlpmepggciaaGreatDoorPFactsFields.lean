/-
  Closed facts of FieldsBack's row, each by itself (in one piece they outgrow the kernel's lid).
-/
import Derived.Test.YtkmjlpmepggciaaGreatDoorRows
import Derived.JoinedOf
import Derived.WalkKit
set_option linter.unusedVariables false
set_option linter.unusedSimpArgs false
namespace Go.Proofs.YtkmjlpmepggciaaGreatDoor
open Go Go.RowKit
set_option maxHeartbeats 4000000 in
set_option maxRecDepth 100000 in
theorem fieldsFacts : joinedFacts Tryz.pinned.checked.prog 3 Tryz.f3 Rows.fieldsBackSpec Rows.fieldsBackRow = true := by
  unfold joinedFacts
  simp only [Bool.and_eq_true]
  repeat' apply And.intro
  all_goals (as_aux_lemma => kernel_rfl)

end Go.Proofs.YtkmjlpmepggciaaGreatDoor
