/-
Where the keys of a command's words stand, by the document's rule. Plain (no program in sight).
-/
import Derived.Test.YtncbcaabanoeoaaGreatDoorQ43
set_option linter.unusedVariables false
set_option linter.unusedSimpArgs false
set_option maxRecDepth 100000
set_option maxHeartbeats 8000000
namespace Go.Proofs.YtncbcaabanoeoaaGreatDoor
open Go
variable {ws:List ByteArray}
def Jin (sp:Sp) (i:Nat):Prop:=sp.first=1/\1<=i/\((sp.last=1/\i=1)\/(sp.last= -1/\(sp.step=1\/(sp.step=2/\i%2=1))))
theorem Jcl:∀s∈Ju,s.first=0\/(s.first=1/\((s.last=1/\s.step=1)\/(s.last= -1/\(s.step=1\/s.step=2)))):=by decide
theorem Jje:∀(l:List ByteArray) {x:ByteArray},x∈J9d l->∃j,l[2*j]? =some x
 |a::b::l,x,h=>by
  rw[J9d,List.mem_cons] at h;rcases h with rfl|h
  ·exact⟨0,rfl⟩
  ·obtain⟨j,hj⟩:=Jje l h
   exact⟨j+1,by rw[show 2*(j+1)=2*j+1+1 by omega];simpa using hj⟩
 |[],_,h=>by simp[J9d] at h
 |[a],x,h=>by
  simp only[J9d,List.mem_cons,List.not_mem_nil,or_false] at h;subst h;exact⟨0,rfl⟩
theorem Jqw {sp:Sp} (h:sp∈Ju) {x:ByteArray} (hx:x∈J0m sp (ws.drop 1)):∃i,ws[i]? =some x/\Jin sp i:=by
 unfold J0m at hx;rcases Jcl sp h with h0|⟨h1,h2⟩
 ·rw[if_pos h0] at hx;cases hx
 ·rw[if_neg (by omega)] at hx
  rcases h2 with⟨h3,h4⟩|⟨h3,h4⟩
  ·rw[if_pos h3] at hx
   obtain⟨j,hj⟩:=List.mem_iff_getElem?.1 hx
   have hj0:j<1:=by
    have:=(List.getElem?_eq_some_iff.1 hj).1
    simp only[List.length_take] at this;omega
   obtain rfl:j=0:=by omega
   rw[List.getElem?_take_of_lt (by decide),List.getElem?_drop] at hj
   exact⟨1,hj,h1,Nat.le_refl _,.inl ⟨h3,rfl⟩⟩
  ·rw[if_neg (by omega)] at hx
   by_cases h5:sp.step=1
   ·rw[if_pos h5] at hx
    obtain⟨j,hj⟩:=List.mem_iff_getElem?.1 hx
    rw[List.getElem?_drop] at hj;exact⟨1+j,hj,h1,by omega,.inr ⟨h3,.inl h5⟩⟩
   ·rw[if_neg h5] at hx
    obtain⟨j,hj⟩:=Jje _ hx
    rw[List.getElem?_drop] at hj;exact⟨1+2*j,hj,h1,by omega,.inr ⟨h3,.inr ⟨by omega,by omega⟩⟩⟩
theorem Jo2 {ws:List ByteArray} {sp:Sp} (h:Ku ws=(sp,ByteArray.empty)):sp∈Ju\/sp=Jw:=by
 unfold Ku at h;split at h
 ·exact .inr (congrArg Prod.fst h).symm
 ·split at h
  ·exact .inr (congrArg Prod.fst h).symm
  ·rename_i s hs
   split at h
   ·exact .inr (congrArg Prod.fst h).symm
   ·have:=congrArg Prod.fst h
    simp only at this
    subst this;exact .inl (J98 hs).1
theorem Jo1 {ws:List ByteArray} (h:(Ku ws).2≠ByteArray.empty):(Ku ws).1=Jw:=by
 unfold Ku at h⊢;split
 ·rfl
 ·split
  ·rfl
  ·split
   ·rfl
   ·rename_i s hs h3
    simp only[hs] at h;rw[if_neg h3] at h;exact absurd rfl h
end Go.Proofs.YtncbcaabanoeoaaGreatDoor
