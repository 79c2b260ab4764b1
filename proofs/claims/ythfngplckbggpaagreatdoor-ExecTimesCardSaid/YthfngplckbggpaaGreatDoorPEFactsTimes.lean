/-
  Closed facts of ExecTimes's row, each by itself (in one piece they outgrow the kernel's lid).
-/
import Derived.Test.YthfngplckbggpaaGreatDoorRows
import Derived.JoinedOf
import Derived.WalkKit
set_option linter.unusedVariables false
set_option linter.unusedSimpArgs false
namespace Go.Proofs.YthfngplckbggpaaGreatDoor
open Go Go.RowKit
set_option maxHeartbeats 4000000 in
set_option maxRecDepth 100000 in
theorem timesFacts : joinedFacts Tryz.pinned.checked.prog 4 Tryz.f4 Rows.execTimesSpec Rows.execTimesRow = true := by
  unfold joinedFacts
  simp only [Bool.and_eq_true]
  repeat' apply And.intro
  all_goals (as_aux_lemma => kernel_rfl)

end Go.Proofs.YthfngplckbggpaaGreatDoor
