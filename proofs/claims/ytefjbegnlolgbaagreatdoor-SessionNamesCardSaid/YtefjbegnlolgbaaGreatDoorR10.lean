/-
Closed facts of SessionNames's row, each by itself (in one piece they outgrow the kernel's lid).
-/
import Derived.JoinedOf
import Derived.WalkKit
import GoSem.ClaimGoes
import Derived.Test.YtefjbegnlolgbaaGreatDoorRows
set_option linter.unusedVariables false
set_option linter.unusedSimpArgs false
set_option maxRecDepth 100000
set_option maxHeartbeats 8000000
namespace Go.Proofs.YtefjbegnlolgbaaGreatDoor
open Go Go.RowKit
theorem Jp5 {P:Program} (h:P.funcs.any Func.goes=false) (f:FuncId):P.goes f=false:=by
 have h1:∀g:FuncId,(P.funcs[g]?).any Func.goes=false:=fun g=>by
  cases hg:P.funcs[g]? with
  |none=>rfl
  |some fn=>
   obtain⟨hlt,rfl⟩:=Array.getElem?_eq_some_iff.1 hg
   have:=(Array.any_eq_false.1 h) g hlt
   simpa using this
 unfold Program.goes;rw[h,Bool.and_false,Bool.or_false,List.any_eq_false];intro g _
 rw[h1 g];simp
theorem Joi {P:Program} (h:P.funcs.any Func.goes=false) (c:OpenClaim) (hs:c.start= .entering):false=c.goesBy P:=by
 unfold OpenClaim.goesBy Program.goesAt Program.goesFrom;rw[hs];cases P.funcNamed c.func with
 |none=>rfl
 |some f=>simp[Jp5 h f]
theorem Jp8:Tryz.pinned.checked.prog.funcs.any Func.goes=false:=by kernel_rfl
theorem Jpm:joinedFacts Tryz.pinned.checked.prog 3 Tryz.f3 Rows.sessionNamesSpec Rows.sessionNamesRow=true:=by
 unfold joinedFacts;simp only[Bool.and_eq_true];repeat' apply And.intro
 all_goals (as_aux_lemma=>kernel_rfl)
end Go.Proofs.YtefjbegnlolgbaaGreatDoor
