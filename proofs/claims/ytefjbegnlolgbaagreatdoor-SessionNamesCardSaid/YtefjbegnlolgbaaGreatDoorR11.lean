/-
SessionNames's statement: whatever comes in: the law answers true, and what was there stays as it was. The card is tied by the given tie.
-/
import Derived.Test.YtefjbegnlolgbaaGreatDoorCards
import Derived.Test.YtefjbegnlolgbaaGreatDoorR09
import Derived.Test.YtefjbegnlolgbaaGreatDoorR10
import Derived.Test.YtefjbegnlolgbaaGreatDoorTie
set_option linter.unusedVariables false
set_option linter.unusedSimpArgs false
set_option maxRecDepth 100000
set_option maxHeartbeats 8000000
namespace Go.Proofs.YtefjbegnlolgbaaGreatDoor
open Go Go.RowKit Go.ChangeShapes Go.WideShapes Go.ChangeAt
theorem Jq2:Rows.sessionNamesRow.holds Tryz.pinned (OpenSpec.ofChange Rows.sessionNamesSpec):=
 OpenClaim.holds_of_wide 3 Tryz.f3 rfl rfl rfl rfl rfl rfl rfl ⟨rfl,rfl,rfl,rfl,rfl⟩ rfl rfl rfl rfl rfl (by as_aux_lemma=>kernel_rfl) Tryz.func3 Jpm
  (of_decide_eq_true (by as_aux_lemma=>kernel_rfl)) (by unfold Func.isWrapper;first|(rw[if_pos (by decide+kernel)];kernel_rfl)|(rw[if_neg (by decide+kernel)];exact⟨rfl,rfl⟩))
  (fun os started H enc _=>Jp7 os started H enc)
theorem sessionNames_card:Rows.SessionNamesCardSaid:=
 Claim7.holds_tied_plain_at .later [] [.data,.data,.widerDeep,.widerDeep,.data,.data,.data,.data,.data,.data,.sentinel,.sentinel,.pinned,.pinned,.pinned,.pinned] true (true,"40dde701e33345931beea5e1c9d9310e06a5e6eff0e3de3f765324b882fe6e93") true Jq2 (fun _ h=>by cases h) (by as_aux_lemma=>kernel_rfl) (fun _ h=>by cases h) sessionNames_row_tie rfl ⟨rfl,rfl⟩ (by as_aux_lemma=>kernel_rfl) rfl
  (fun f fn hf hfn=>by
   obtain rfl:f=3:=Option.some.inj ((show Tryz.prog.funcNamed "nearhand/nearhandlaw21.SessionNames"=some 3 by kernel_rfl).symm.trans hf)|>.symm
   obtain rfl:fn=Tryz.f3:=(Option.some.inj (Tryz.func3.symm.trans hfn)).symm
   exact⟨by kernel_rfl,fun j t ht=>by
    rw[Tryz.params3] at ht;have hm:t∈[]:=by simpa using Array.mem_of_getElem? ht
    have hall:([].all fun u=>!Tryz.prog.wantsStandIn u)=true:=by kernel_rfl
    exact(show Tryz.prog.wantsStandIn t=false by simpa using List.all_eq_true.1 hall t hm)⟩)
  (Joi Jp8 _ rfl)
end Go.Proofs.YtefjbegnlolgbaaGreatDoor
