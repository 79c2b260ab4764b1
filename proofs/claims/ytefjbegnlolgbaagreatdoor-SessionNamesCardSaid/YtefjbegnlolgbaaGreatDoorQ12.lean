/-
No text of the program starts a goroutine, so no call does: read off the texts one behind the other.
-/
import Derived.SevenTiedAt
import Derived.Test.YtefjbegnlolgbaaGreatDoorChecked
import Derived.Test.YtefjbegnlolgbaaGreatDoorQ01
set_option linter.unusedVariables false
set_option linter.unusedSimpArgs false
set_option maxRecDepth 100000
set_option maxHeartbeats 8000000
namespace Go.Proofs.YtefjbegnlolgbaaGreatDoor
open Go Go.RowKit
theorem Ji7 {P:Program} (h:(P.funcs.any Func.goes)=false) (func:String):P.goesAt .entering func=false:=by
 have h1:∀g:Nat,((P.funcs[g]?).any Func.goes)=false:=by
  intro g
  rcases hg:P.funcs[g]? with _|fn
  ·rfl
  ·have hm:=Array.mem_of_getElem? hg
   have:=Array.any_eq_false'.1 h fn hm
   simpa using this
 have h2:∀f,P.goes f=false:=by
  intro f
  unfold Program.goes;rw[h,Bool.and_false,Bool.or_false];rw[List.any_eq_false];intro g _
  simpa using h1 g
 unfold Program.goesAt Program.goesFrom;rcases P.funcNamed func with _|f
 ·rfl
 ·show(P.goes f||false)=false
  rw[h2 f];rfl
theorem Jnn (func:String):Tryz.prog.goesAt .entering func=false:=Ji7 (by as_aux_lemma=>kernel_rfl) func
end Go.Proofs.YtefjbegnlolgbaaGreatDoor
