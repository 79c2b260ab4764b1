/-
A block among others that are owned is filled; what a list's tail is.
-/
import Derived.Test.YtefjbegnlolgbaaGreatDoorQ27
import Derived.Test.YtefjbegnlolgbaaGreatDoorR06
set_option linter.unusedVariables false
set_option linter.unusedSimpArgs false
set_option maxRecDepth 100000
set_option maxHeartbeats 8000000
namespace Go.Proofs.YtefjbegnlolgbaaGreatDoor
open Go Go.RowKit
variable {w0 w:World}{X R:Hp}{b gp gq kb:Nat}{csp csq:List Value}
abbrev Zr:Obj:=.cells #[.int .i64 0,.string ⟨#[]⟩,.int .i64 0,.float .f64 0,.bool false,.slice none 0 0] 29 (0,0)
theorem J1.fillX (h:J1 w0 [] w (X++R)) (hm:(b,Zr)∈X) (kd:Int) (tx:ByteArray) (nn:Int) (lv:Value):
 ∃X',J1 w0 [] ((((((w.setCell ⟨b,0,none⟩ (.int .i64 kd)).setCell ⟨b,1,none⟩ (.string tx)).setCell ⟨b,2,none⟩ (.int .i64 nn)).setCell ⟨b,3,none⟩ (.float .f64 0)).setCell ⟨b,4,none⟩ (.bool false)).setCell ⟨b,5,none⟩ lv) (X'++R)/\(b,J1b kd tx nn lv)∈X'/\∀q∈X,q.1≠b->q∈X':=by
 obtain⟨A,B,rfl⟩:=List.append_of_mem hm
 refine⟨(b,J1b kd tx nn lv)::(A++B),?_,List.mem_cons_self ..,fun q hq hne=>?_⟩
 ·have h1:=h.permR (l2:=(b,Zr)::(A++(B++R))) (J2 fun f=>by simp only[SC];omega)
  have h2:J1 w0 [] _ ((b,J1b kd tx nn lv)::_):=h1.setVal kd tx nn lv;exact h2.permR (J2 fun f=>by simp only[List.map_append,List.sum_append,List.map_cons,List.sum_cons,List.cons_append];omega)
 ·rcases List.mem_append.1 hq with h1|h1
  ·exact List.mem_cons_of_mem _ (List.mem_append_left _ h1)
  ·rcases List.mem_cons.1 h1 with h2|h2
   ·exact absurd (congrArg Prod.fst h2) hne
   ·exact List.mem_cons_of_mem _ (List.mem_append_right _ h2)
structure Kg (X:Hp) (gp gq h hc:Nat) (csp csq hs:List Value):Prop where
 mp:(gp,.cells csp.toArray 29 (0,0))∈X
 cp:csp[11]? =some (.slice (some ⟨h,0,none⟩) 1 hc)
 mh:(h,.cells hs.toArray 29 (0,0))∈X
 ch:hs[1]? =some (.string kB)
 mq:(gq,.cells csq.toArray 29 (0,0))∈X
 cq:csq[7]? =some (.string Joa)
def Two (w0:World) (R:Hp) (w:World) (pb qb:Nat):Prop:=∃(X:Hp) (gp cp gq cq h hc:Nat) (csp csq hs:List Value),J1 w0 [] w (X++R)/\(pb,J1b 14 ByteArray.empty 0 (.slice (some ⟨gp,0,none⟩) 2 cp))∈X/\(qb,J1b 5 ByteArray.empty 0 (.slice (some ⟨gq,0,none⟩) 3 cq))∈X/\Kg X gp gq h hc csp csq hs
theorem Jog (h:J1 w0 [] w (X++R)) {b2:Nat} {o:Obj} (hm:(b,Zr)∈X) (h2:(b2,o)∈X) (i:Nat) (v:Value) (hv:w.cell? ⟨b2,i,none⟩=some v) (hz:∀w':World,w'.heap[b]? =some Zr->w'.cell? ⟨b,i,none⟩≠some v):b2≠b:=by
 rintro rfl;exact hz w (h.own.at_ _ (List.mem_append_left _ hm)) hv
theorem Kg.keep {X':Hp} {h hc:Nat} {hs:List Value} (hS:J1 w0 [] w (X++R)) (hB:Kg X gp gq h hc csp csq hs) (hm:(b,Zr)∈X) (hX:∀q∈X,q.1≠b->q∈X'):Kg X' gp gq h hc csp csq hs:=by
 have at_:=fun q hq=>hS.own.at_ q (List.mem_append_left R hq)
 have c11:w.cell? ⟨gp,11,none⟩=some (.slice (some ⟨h,0,none⟩) 1 hc):=by rw[J0 (at_ _ hB.mp),List.getElem?_toArray,hB.cp]
 have c7:w.cell? ⟨gq,7,none⟩=some (.string Joa):=by rw[J0 (at_ _ hB.mq),List.getElem?_toArray,hB.cq]
 have c1:w.cell? ⟨h,1,none⟩=some (.string kB):=by rw[J0 (at_ _ hB.mh),List.getElem?_toArray,hB.ch]
 exact⟨hX _ hB.mp (Jog hS hm hB.mp 11 _ c11 fun w' hw=>by rw[J0 hw];simp),hB.cp,hX _ hB.mh (Jog hS hm hB.mh 1 _ c1 fun w' hw=>by rw[J0 hw];simp),hB.ch,hX _ hB.mq (Jog hS hm hB.mq 7 _ c7 fun w' hw=>by rw[J0 hw];simp),hB.cq⟩
theorem Kg.cons' {h hc:Nat} {hs:List Value} (hB:Kg X gp gq h hc csp csq hs) (p:Nat×Obj):Kg (p::X) gp gq h hc csp csq hs:=⟨List.mem_cons_of_mem _ hB.mp,hB.cp,List.mem_cons_of_mem _ hB.mh,hB.ch,List.mem_cons_of_mem _ hB.mq,hB.cq⟩
section
variable {w0 w:World} {X R:Hp} {pb qb gp cp gq cq h hc:Nat} {csp csq hs:List Value}
theorem Jp0 (hS:J1 w0 [] w (X++R)) (hB:Kg X gp gq h hc csp csq hs) (mp:(pb,Zr)∈X) (mq:(qb,Zr)∈X) (hne:qb≠pb):
 Two w0 R ((((((((((((w.setCell ⟨pb,0,none⟩ (.int .i64 14)).setCell ⟨pb,1,none⟩ (.string ByteArray.empty)).setCell ⟨pb,2,none⟩ (.int .i64 0)).setCell ⟨pb,3,none⟩ (.float .f64 0)).setCell ⟨pb,4,none⟩ (.bool false)).setCell ⟨pb,5,none⟩ (.slice (some ⟨gp,0,none⟩) 2 cp)).setCell ⟨qb,0,none⟩ (.int .i64 5)).setCell ⟨qb,1,none⟩ (.string ByteArray.empty)).setCell ⟨qb,2,none⟩ (.int .i64 0)).setCell ⟨qb,3,none⟩ (.float .f64 0)).setCell ⟨qb,4,none⟩ (.bool false)).setCell ⟨qb,5,none⟩ (.slice (some ⟨gq,0,none⟩) 3 cq)) pb qb:=by
 obtain⟨X1,S1,m1,k1⟩:=hS.fillX mp 14 ByteArray.empty 0 (.slice (some ⟨gp,0,none⟩) 2 cp)
 have mq1:=k1 _ mq hne;obtain⟨X2,S2,m2,k2⟩:=S1.fillX mq1 5 ByteArray.empty 0 (.slice (some ⟨gq,0,none⟩) 3 cq)
 exact⟨X2,gp,cp,gq,cq,h,hc,csp,csq,hs,S2,k2 _ m1 (fun e=>hne e.symm),m2,(hB.keep hS mp k1).keep S1 mq1 k2⟩
theorem Jpn (hS:J1 w0 [] w (X++R)) (hB:Kg X gp gq h hc csp csq hs) (mp:(pb,Zr)∈X):
 Two w0 R (((((((w.setCell ⟨pb,0,none⟩ (.int .i64 14)).setCell ⟨pb,1,none⟩ (.string ByteArray.empty)).setCell ⟨pb,2,none⟩ (.int .i64 0)).setCell ⟨pb,3,none⟩ (.float .f64 0)).setCell ⟨pb,4,none⟩ (.bool false)).setCell ⟨pb,5,none⟩ (.slice (some ⟨gp,0,none⟩) 2 cp)).alloc (J1b 5 ByteArray.empty 0 (.slice (some ⟨gq,0,none⟩) 3 cq))) pb w.heap.size:=by
 obtain⟨X1,S1,m1,k1⟩:=hS.fillX mp 14 ByteArray.empty 0 (.slice (some ⟨gp,0,none⟩) 2 cp)
 have S2:=S1.alloc (J1b 5 ByteArray.empty 0 (.slice (some ⟨gq,0,none⟩) 3 cq));simp only[World.size_setCell] at S2;exact⟨_::X1,gp,cp,gq,cq,h,hc,csp,csq,hs,S2,List.mem_cons_of_mem _ m1,List.mem_cons_self ..,(hB.keep hS mp k1).cons' _⟩
theorem Jp9 (hS:J1 w0 [] w (X++R)) (hB:Kg X gp gq h hc csp csq hs) (mq:(qb,Zr)∈X):
 Two w0 R (((((((w.setCell ⟨qb,0,none⟩ (.int .i64 5)).setCell ⟨qb,1,none⟩ (.string ByteArray.empty)).setCell ⟨qb,2,none⟩ (.int .i64 0)).setCell ⟨qb,3,none⟩ (.float .f64 0)).setCell ⟨qb,4,none⟩ (.bool false)).setCell ⟨qb,5,none⟩ (.slice (some ⟨gq,0,none⟩) 3 cq)).alloc (J1b 14 ByteArray.empty 0 (.slice (some ⟨gp,0,none⟩) 2 cp))) w.heap.size qb:=by
 obtain⟨X1,S1,m1,k1⟩:=hS.fillX mq 5 ByteArray.empty 0 (.slice (some ⟨gq,0,none⟩) 3 cq)
 have S2:=S1.alloc (J1b 14 ByteArray.empty 0 (.slice (some ⟨gp,0,none⟩) 2 cp));simp only[World.size_setCell] at S2;exact⟨_::X1,gp,cp,gq,cq,h,hc,csp,csq,hs,S2,List.mem_cons_self ..,List.mem_cons_of_mem _ m1,(hB.keep hS mq k1).cons' _⟩
theorem Jqh (hS:J1 w0 [] w (X++R)) (hB:Kg X gp gq h hc csp csq hs):Two w0 R ((w.alloc (J1b 14 ByteArray.empty 0 (.slice (some ⟨gp,0,none⟩) 2 cp))).alloc (J1b 5 ByteArray.empty 0 (.slice (some ⟨gq,0,none⟩) 3 cq))) w.heap.size (w.heap.size+1):=by
 have S2:=(hS.alloc (J1b 14 ByteArray.empty 0 (.slice (some ⟨gp,0,none⟩) 2 cp))).alloc (J1b 5 ByteArray.empty 0 (.slice (some ⟨gq,0,none⟩) 3 cq));rw[World.size_alloc] at S2;exact⟨_::_::X,gp,cp,gq,cq,h,hc,csp,csq,hs,S2,List.mem_cons_of_mem _ (List.mem_cons_self ..),List.mem_cons_self ..,(hB.cons' _).cons' _⟩
theorem Jqi (hS:J1 w0 [] w (X++R)) (hB:Kg X gp gq h hc csp csq hs):Two w0 R ((w.alloc (J1b 5 ByteArray.empty 0 (.slice (some ⟨gq,0,none⟩) 3 cq))).alloc (J1b 14 ByteArray.empty 0 (.slice (some ⟨gp,0,none⟩) 2 cp))) (w.heap.size+1) w.heap.size:=by
 have S2:=(hS.alloc (J1b 5 ByteArray.empty 0 (.slice (some ⟨gq,0,none⟩) 3 cq))).alloc (J1b 14 ByteArray.empty 0 (.slice (some ⟨gp,0,none⟩) 2 cp));rw[World.size_alloc] at S2;exact⟨_::_::X,gp,cp,gq,cq,h,hc,csp,csq,hs,S2,List.mem_cons_self ..,List.mem_cons_of_mem _ (List.mem_cons_self ..),(hB.cons' _).cons' _⟩
end
theorem Jo3 {yp yq mid pre:Hp} (hS:J1 w0 [] w ((gq,.cells csq.toArray 29 (0,0))::(yq++(mid++((gp,.cells csp.toArray 29 (0,0))::(yp++(pre++R)))))))
 (h1:∃(h c:Nat) (hs:List Value) (y':Hp),csp[11]? =some (.slice (some ⟨h,0,none⟩) 1 c)/\yp=(h,.cells hs.toArray 29 (0,0))::y'/\hs[1]? =some (.string kB)) (h2:csq[7]? =some (.string Joa)):
  ∃(X:Hp) (h hc:Nat) (hs:List Value),J1 w0 [] w (X++R)/\Kg X gp gq h hc csp csq hs/\(∀q∈mid,q∈X)/\(∀q∈pre,q∈X):=by
  obtain⟨h,c,hs,y',e1,rfl,e2⟩:=h1
  refine⟨(gq,.cells csq.toArray 29 (0,0))::(yq++(mid++((gp,.cells csp.toArray 29 (0,0))::(((h,.cells hs.toArray 29 (0,0))::y')++pre)))),h,c,hs,?_,⟨by simp,e1,by simp,e2,by simp,h2⟩,fun q hq=>by simp[hq],fun q hq=>by simp[hq]⟩
  have e:∀(a:Nat×Obj) (l:Hp),a::l=[a]++l:=fun _ _=>rfl
  simpa only[List.append_assoc,List.cons_append] using hS
structure Jqp (w:World) (b:Nat):Prop where
 z0:∀o,(w.alloc o).cell? ⟨b,0,none⟩=some (.int .i64 0)
 z1:∀o,(w.alloc o).cell? ⟨b,1,none⟩=some (.string ByteArray.empty)
 z2:∀o,(w.alloc o).cell? ⟨b,2,none⟩=some (.int .i64 0)
 z3:∀o,(w.alloc o).cell? ⟨b,3,none⟩=some (.float .f64 0)
 z4:∀o,(w.alloc o).cell? ⟨b,4,none⟩=some (.bool false)
 z5:∀o,(w.alloc o).cell? ⟨b,5,none⟩=some (.slice none 0 0)
 fz:∀o j,(w.alloc o).frozen? ⟨b,j,none⟩=false
 hlt:∀o,b<(w.alloc o).heap.size
structure Jqo (w:World) (b:Nat):Prop where
 r:Jqj w b
 t:Jqp w b
 n1:b≠w.heap.size
 n2:w.heap.size≠b
theorem Ke (hS:J1 w0 [] w (X++R)) (hz:(b,Zr)∈X):Jqo w b:=by
 have h1:=Jot (hS.own.at_ (b,Zr) (List.mem_append_left _ hz));have h2:=fun o=>Jot ((hS.alloc o).own.at_ (b,Zr) (List.mem_cons_of_mem _ (List.mem_append_left _ hz)))
 have hl:=h1.hlt;exact⟨h1,⟨fun o=>(h2 o).z0,fun o=>(h2 o).z1,fun o=>(h2 o).z2,fun o=>(h2 o).z3,fun o=>(h2 o).z4,fun o=>(h2 o).z5,fun o=>(h2 o).fz,fun o=>(h2 o).hlt⟩,by omega,by omega⟩
theorem Jpo {yp yq A B C:Hp} {b1 b2:Nat} {o1 o2:Obj} (hS:J1 w0 [] w ((gq,o1)::(yq++(A++((gp,o2)::(yp++(B++R))))))) (h:A++B=(b1,Zr)::(b2,Zr)::C):b1≠b2:=by
 have h1:=hS.permR (l2:=(A++B)++((gq,o1)::(yq++((gp,o2)::(yp++R))))) (J2 fun f=>by simp only[SC];omega)
 have h2:=h1.own.nd;rw[h] at h2;simp only[List.cons_append,J0v,List.nodup_cons,List.mem_cons,not_or] at h2;exact h2.1.1
abbrev Jo8 (kb:Nat) (w':World):Prop:=w'.cell? ⟨kb,0,none⟩=some (.int .i64 1)/\w'.cell? ⟨kb,1,none⟩=some (.int .i64 0)/\w'.cell? ⟨kb,2,none⟩=some (.int .i64 0)/\w'.cell? ⟨kb,3,none⟩=some (.string kB)
theorem Jok (hS:J1 w0 [] w (X++R)) (hm:(kb,Kc 1 kB)∈R):Jo8 kb w:=by
 have h2:=hS.own.at_ _ (List.mem_append_right X hm);exact⟨J0 h2 0,J0 h2 1,J0 h2 2,J0 h2 3⟩
theorem Jpe (hS:J1 w0 [] w (X++R)) (hm:(kb,Kc 1 kB)∈R) (hz:(b,Zr)∈X) (kd:Int) (tx:ByteArray) (nn:Int) (lv:Value):
 Jo8 kb ((((((w.setCell ⟨b,0,none⟩ (.int .i64 kd)).setCell ⟨b,1,none⟩ (.string tx)).setCell ⟨b,2,none⟩ (.int .i64 nn)).setCell ⟨b,3,none⟩ (.float .f64 0)).setCell ⟨b,4,none⟩ (.bool false)).setCell ⟨b,5,none⟩ lv):=by
 obtain⟨X',S',_,_⟩:=hS.fillX hz kd tx nn lv
 exact Jok S' hm
theorem Jpz {b':Nat} (hS:J1 w0 [] w (X++R)) (hm:(kb,Kc 1 kB)∈R) (hz:(b,Zr)∈X) (hz':(b',Zr)∈X) (hne:b'≠b) (kd:Int) (tx:ByteArray) (nn:Int) (lv:Value) (kd':Int) (tx':ByteArray) (nn':Int) (lv':Value):
 Jo8 kb ((((((((((((w.setCell ⟨b,0,none⟩ (.int .i64 kd)).setCell ⟨b,1,none⟩ (.string tx)).setCell ⟨b,2,none⟩ (.int .i64 nn)).setCell ⟨b,3,none⟩ (.float .f64 0)).setCell ⟨b,4,none⟩ (.bool false)).setCell ⟨b,5,none⟩ lv).setCell ⟨b',0,none⟩ (.int .i64 kd')).setCell ⟨b',1,none⟩ (.string tx')).setCell ⟨b',2,none⟩ (.int .i64 nn')).setCell ⟨b',3,none⟩ (.float .f64 0)).setCell ⟨b',4,none⟩ (.bool false)).setCell ⟨b',5,none⟩ lv'):=by
 obtain⟨X',S',_,k⟩:=hS.fillX hz kd tx nn lv
 exact Jpe S' hm (k _ hz' hne) kd' tx' nn' lv'
theorem Jor (hS:J1 w0 [] w (X++R)) (hm:(kb,Kc 1 kB)∈R):Hid (Jo8 kb w)/\(∀o,Hid (Jo8 kb (w.alloc o)))/\∀o o',Hid (Jo8 kb ((w.alloc o).alloc o')):=
 ⟨hid (Jok hS hm),fun o=>hid (Jok (X:=(w.heap.size,o)::X) (hS.alloc o) hm),fun o o'=>hid (Jok (X:=((w.alloc o).heap.size,o')::(w.heap.size,o)::X) ((hS.alloc o).alloc o') hm)⟩
theorem Kj (hS:J1 w0 [] w (X++R)) (hm:(kb,Kc 1 kB)∈R) (hz:(b,Zr)∈X):
 (∀(kd:Int) (tx:ByteArray) (nn:Int) (lv:Value),Hid (Jo8 kb ((((((w.setCell ⟨b,0,none⟩ (.int .i64 kd)).setCell ⟨b,1,none⟩ (.string tx)).setCell ⟨b,2,none⟩ (.int .i64 nn)).setCell ⟨b,3,none⟩ (.float .f64 0)).setCell ⟨b,4,none⟩ (.bool false)).setCell ⟨b,5,none⟩ lv)))/\(∀(o:Obj) (kd:Int) (tx:ByteArray) (nn:Int) (lv:Value),Hid (Jo8 kb (((((((w.setCell ⟨b,0,none⟩ (.int .i64 kd)).setCell ⟨b,1,none⟩ (.string tx)).setCell ⟨b,2,none⟩ (.int .i64 nn)).setCell ⟨b,3,none⟩ (.float .f64 0)).setCell ⟨b,4,none⟩ (.bool false)).setCell ⟨b,5,none⟩ lv).alloc o))):=
 ⟨fun kd tx nn lv=>hid (Jpe hS hm hz kd tx nn lv),fun o kd tx nn lv=>hid (by
  obtain⟨X',S',_,_⟩:=hS.fillX hz kd tx nn lv
  exact Jok (X:=(_,o)::X') (S'.alloc o) hm)⟩
theorem Kk {c:Nat} (hS:J1 w0 [] w (X++R)) (hm:(kb,Kc 1 kB)∈R) (hz:(b,Zr)∈X) (hz':(c,Zr)∈X) (hne:c≠b):
 ∀(kd:Int) (tx:ByteArray) (nn:Int) (lv:Value) (kd':Int) (tx':ByteArray) (nn':Int) (lv':Value),Hid (Jo8 kb ((((((((((((w.setCell ⟨b,0,none⟩ (.int .i64 kd)).setCell ⟨b,1,none⟩ (.string tx)).setCell ⟨b,2,none⟩ (.int .i64 nn)).setCell ⟨b,3,none⟩ (.float .f64 0)).setCell ⟨b,4,none⟩ (.bool false)).setCell ⟨b,5,none⟩ lv).setCell ⟨c,0,none⟩ (.int .i64 kd')).setCell ⟨c,1,none⟩ (.string tx')).setCell ⟨c,2,none⟩ (.int .i64 nn')).setCell ⟨c,3,none⟩ (.float .f64 0)).setCell ⟨c,4,none⟩ (.bool false)).setCell ⟨c,5,none⟩ lv')):=
 fun kd tx nn lv kd' tx' nn' lv'=>hid (Jpz hS hm hz hz' hne kd tx nn lv kd' tx' nn' lv')
end Go.Proofs.YtefjbegnlolgbaaGreatDoor
