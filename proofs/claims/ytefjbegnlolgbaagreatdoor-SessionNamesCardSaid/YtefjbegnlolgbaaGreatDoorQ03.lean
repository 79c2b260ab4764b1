/-
Parts in another order: by sums; some of what is owned is picked out.
-/
import Derived.Test.YtefjbegnlolgbaaGreatDoorQ01
set_option linter.unusedVariables false
set_option linter.unusedSimpArgs false
set_option maxRecDepth 100000
set_option maxHeartbeats 8000000
namespace Go.Proofs.YtefjbegnlolgbaaGreatDoor
open Go Go.RowKit
theorem SC:(∀(f:Nat×Obj->Nat) (a b:List (Nat×Obj)),(a++b).map f=a.map f++b.map f)/\(∀a b:List Nat,(a++b).sum=a.sum+b.sum)/\(∀(f:Nat×Obj->Nat) (a:Nat×Obj) (b:List (Nat×Obj)),(a::b).map f=f a::b.map f)/\(∀(a:Nat) (b:List Nat),(a::b).sum=a+b.sum)/\(∀f:Nat×Obj->Nat,[].map f=[])/\([]:List Nat).sum=0:=
 ⟨fun _ _ _=>List.map_append,fun _ _=>List.sum_append,fun _ _ _=>List.map_cons,fun _ _=>List.sum_cons,fun _=>List.map_nil,List.sum_nil⟩
theorem J2 {α:Type} {l m:List α} (h:∀f:α->Nat,(l.map f).sum=(m.map f).sum):l.Perm m:=by
 classical
 rw[List.perm_iff_count];intro a
 have key:∀xs:List α,(xs.map fun x=>if x=a then 1 else 0).sum=xs.count a:=by
  intro xs
  induction xs with
  |nil=>rfl
  |cons x xs ih=>
   simp only[List.map_cons,List.sum_cons,List.count_cons,ih];by_cases e:x=a<;>simp[e]<;>omega
 rw[<-key,<-key];exact h _
theorem J1.pick {w w':World} {l l' l2 m:Hp} (h:J1 w l w' l') (p:l'.Perm (l2++m)):J1 w l w' l2:=(h.permR p).less (List.sublist_append_left _ _)
structure Jls (w:World) (b:Nat) (x y z:Value):Prop where
 c0:w.cell? ⟨b,0,none⟩=some x
 c1:w.cell? ⟨b,1,none⟩=some y
 c2:w.cell? ⟨b,2,none⟩=some z
 fz:∀j,w.frozen? ⟨b,j,none⟩=false
theorem J04 {w:World} {b:Nat} {x y z:Value} {t:TypeId} (h:w.heap[b]? =some (.cells #[x,y,z] t (0,0))):Jls w b x y z:=⟨J0 h 0,J0 h 1,J0 h 2,fun j=>J6 h j⟩
theorem SliceHp.form {k:Nat} {T:TypeId} {v:Value} {n:Nat} {xs:List Value} {l:Hp} (h:SliceHp k T v n xs l):∃a c,v= .slice a n c/\n<=c/\c<=maxLen:=by
 cases h with
 |nil=>exact⟨_,_,rfl,Nat.le_refl _,by decide⟩
 |laid g n cap xs rest hx hr hn hc=>exact⟨_,_,rfl,hn,hc⟩
end Go.Proofs.YtefjbegnlolgbaaGreatDoor
