/-
Slices of bytes that are owned, as lists of bytes: append, and the text of them.
-/
import Derived.Test.YtefjbegnlolgbaaGreatDoorQ01
set_option linter.unusedVariables false
set_option linter.unusedSimpArgs false
set_option maxRecDepth 100000
set_option maxHeartbeats 8000000
namespace Go.Proofs.YtefjbegnlolgbaaGreatDoor
open Go Go.RowKit
abbrev bv (b:UInt8):Value:=.int .u8 (b.toNat:Int)
def Bsl (v:Value) (l:List UInt8) (sl:Hp):Prop:=SliceHp 1 5 v l.length (l.map bv) sl
theorem Bsl.shape {v:Value} {l:List UInt8} {sl:Hp} (h:Bsl v l sl):∃a c,v= .slice a l.length c:=by
 unfold Bsl at h;generalize hn:l.length=n at h;generalize hx:l.map bv=xs at h;cases h with
 |nil=>exact⟨none,0,rfl⟩
 |laid g n cap xs rest hx hr hn hc=>exact⟨_,cap,rfl⟩
end Go.Proofs.YtefjbegnlolgbaaGreatDoor
