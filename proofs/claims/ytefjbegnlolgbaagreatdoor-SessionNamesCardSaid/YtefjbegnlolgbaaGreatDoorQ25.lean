/-
session.New as a hub; track.Join, session's Join; Store, Track, Proto, Name.
-/
import Derived.Defers
import Derived.Test.YtefjbegnlolgbaaGreatDoorQ24
set_option linter.unusedVariables false
set_option linter.unusedSimpArgs false
set_option maxRecDepth 100000
set_option maxHeartbeats 8000000
namespace Go.Proofs.YtefjbegnlolgbaaGreatDoor
open Go Go.RowKit
variable {w0 w:World}{r l L:Hp}{s:Hu}{c:Hc}{K:KSt}{S:St}{id:Int}{b1 g:Nat}
def Jg0 (w0:World) (r:Hp) (e:Ending) (w':World):Prop:=∃s:Hu,e= .returned (ptr s.hb)/\s.Ok .none (J4w 10000)/\s.hs=[]/\s.ts=[]/\J1 w0 [] w' (s.hp++r)
theorem Jmu (hS:J1 w0 [] w r):Calls Tryz.prog 5 #[.int .i64 10000,.int .i64 10] w (Jg0 w0 r):=by
 refine(Jid hS).mono ?_
 rintro e w' ⟨hb,hm,tb,tm,sto,kb,pb,kl,pl,sl,rfl,hK,hP,hI,S1⟩;refine⟨⟨hb,hm,tb,tm,sto,kb,pb,.map #[] 0,.map #[] 0,[],[],kl,pl,sl⟩,rfl,⟨K8.empty,K8.empty,List.nodup_nil,rfl,hK,hP,hI⟩,rfl,rfl,S1.permR (J2 fun f=>?_)⟩
 rw[K6];simp only[SC];show _=f (hb,.cells #[ptr sto,ptr tb,.map (some hm)] 46 (0,0))+f (hm,.map #[] 0)+f (tb,.cells #[.map (some tm),ptr kb,ptr pb] 83 (0,0))+f (tm,.map #[] 0)+0+0+(kl.map f).sum+(pl.map f).sum+(sl.map f).sum+(r.map f).sum
 omega
def Hu.noHm (s:Hu):Hp:=(s.hb,J1r s)::(s.tb,J1s s)::(s.tm,s.tmo)::(J3d s.hs++(J3e s.ts++(s.kl++(s.pl++s.sl))))
def Hu.noTm (s:Hu):Hp:=(s.hb,J1r s)::(s.hm,s.ho)::(s.tb,J1s s)::(J3d s.hs++(J3e s.ts++(s.kl++(s.pl++s.sl))))
theorem J1.addTc {c:Tc} (h:J1 w0 l w ((c.b,J25 c)::(s.hp++r))) (o':Obj):
 J1 w0 l {w with heap:=w.heap.setIfInBounds s.tm o'} (({s with tmo:=o',ts:=s.ts++[c]}:Hu).hp++r):=by
 have h1:=h.permR (l2:=(s.tm,s.tmo)::((c.b,J25 c)::(s.noTm++r))) (J2 fun f=>by
  rw[List.map_cons,List.sum_cons,K6];simp only[Hu.noTm,List.map_append,List.sum_append,List.map_cons,List.sum_cons];omega)
 exact(h1.obj' o').permR (J2 fun f=>by
  rw[K6];simp only[Hu.noTm,J54,List.map_append,List.sum_append,List.map_cons,List.sum_cons];show _=f (s.hb,J1r s)+f (s.hm,s.ho)+f (s.tb,J1s s)+f (s.tm,o')+((J3d s.hs).map f).sum+(((J3e s.ts).map f).sum+(f (c.b,J25 c)+0))+(s.kl.map f).sum+(s.pl.map f).sum+(s.sl.map f).sum+(r.map f).sum
  omega)
theorem J1.addHc (h:J1 w0 l w ((c.b,J2o c)::(s.hp++r))) (o':Obj):
 J1 w0 l {w with heap:=w.heap.setIfInBounds s.hm o'} (({s with ho:=o',hs:=s.hs++[c]}:Hu).hp++r):=by
 have h1:=h.permR (l2:=(s.hm,s.ho)::((c.b,J2o c)::(s.noHm++r))) (J2 fun f=>by
  rw[List.map_cons,List.sum_cons,K6];simp only[Hu.noHm,List.map_append,List.sum_append,List.map_cons,List.sum_cons];omega)
 exact(h1.obj' o').permR (J2 fun f=>by
  rw[K6];simp only[Hu.noHm,J4r,List.map_append,List.sum_append,List.map_cons,List.sum_cons];show _=f (s.hb,J1r s)+f (s.hm,o')+f (s.tb,J1s s)+f (s.tm,s.tmo)+(((J3d s.hs).map f).sum+(f (c.b,J2o c)+0))+((J3e s.ts).map f).sum+(s.kl.map f).sum+(s.pl.map f).sum+(s.sl.map f).sum+(r.map f).sum
  omega)
def Jch (w0:World) (r:Hp) (s:Hu) (id:Int) (e:Ending) (w':World):Prop:=e= .returned (.bool true)/\∃o' b,K8 o' (J1t ((s.ts++[(⟨id,b,false⟩:Tc)]).map Tc.ib))/\J1 w0 [] w' (({s with tmo:=o',ts:=s.ts++[(⟨id,b,false⟩:Tc)]}:Hu).hp++r)
theorem Jhd (hS:J1 w0 [] w (s.hp++r)) (hO:s.Ok K S) (h1:1<=id) (hn:id∉s.hs.map Hc.id):
 Calls Tryz.prog 15 #[ptr s.tb,.int .i64 id] w (Jch w0 r s id):=by
 have hC:=huC hS.own;have t0:=hC.t0;have hno:id∉(s.ts.map Tc.ib).map Prod.fst:=by rw[Jc5,hO.tn];exact hn
 have hlk:=Jj9 (t:=77) Tryz.underlying77 Jk9 hC.mt hO.tm hno;have S1:=hS.alloc (J25 ⟨id,w.heap.size,false⟩);have hC1:=huC S1.own.tail;have mt1:=hC1.mt;have t1:=hC1.t0;obtain⟨o',hup,hm'⟩:=J9n (P:=Tryz.prog) (t:=77) Tryz.underlying77 Tryz.underlying3 mt1 hO.tm (by rw[J99,Jc5,hO.tn];exact hO.hn) id (ptr w.heap.size)
 rw[Jif hno] at hm';have hdone:=hid (show Jch w0 r s id (.returned (.bool true)) _ from⟨rfl,o',_,by rw[List.map_append];exact hm',S1.addTc (c:=⟨id,w.heap.size,false⟩) o'⟩)
 obtain⟨w2,hw2⟩:∃w2:World,w2={(w.alloc (J25 ⟨id,w.heap.size,false⟩)) with heap:=(w.alloc (J25 ⟨id,w.heap.size,false⟩)).heap.setIfInBounds s.tm o'}:=⟨_,rfl⟩
 rw[<-hw2] at hup hdone;have h2:¬id<1:=by omega
 generalize s.tb=tb at t0 t1⊢;generalize s.tm=tm at t0 t1 hlk hup;replace hno:=hid hno;replace hn:=hid hn;clear hw2 hC hC1 mt1 hS S1 hm' hO h1;go_enter Tryz.func15,Tryz.ntmps15;go_wp2_with fail;go_ret;exact hdone.out
theorem Hu.Ok.join (h:s.Ok K S) {tb hb:Nat} {tmo ho:Obj} (ht:K8 tmo (J1t ((s.ts++[(⟨id,tb,false⟩:Tc)]).map Tc.ib))) (hh:K8 ho (J1t ((s.hs++[(⟨id,hb,2⟩:Hc)]).map Hc.ib))) (hn:id∉s.hs.map Hc.id):
 ({s with tmo:=tmo,ts:=s.ts++[(⟨id,tb,false⟩:Tc)],ho:=ho,hs:=s.hs++[(⟨id,hb,2⟩:Hc)]}:Hu).Ok K S where
 hm:=hh
 tm:=ht
 hn:=by
  show((s.hs++[(⟨id,hb,2⟩:Hc)]).map Hc.id).Nodup
  rw[List.map_append,List.nodup_append];exact⟨h.hn,by simp,fun a ha b hb e=>by simp at hb;subst hb;subst e;exact hn ha⟩
 tn:=by
  show(s.ts++[(⟨id,tb,false⟩:Tc)]).map Tc.id=(s.hs++[(⟨id,hb,2⟩:Hc)]).map Hc.id
  rw[List.map_append,List.map_append,h.tn];rfl
 ks:=h.ks
 pr:=h.pr
 st:=h.st
def J6v (w0:World) (r:Hp) (s:Hu) (K:KSt) (S:St) (id:Int) (e:Ending) (w':World):Prop:=e= .returned (.bool true)/\∃s':Hu,∃b b2:Nat,s'.hb=s.hb/\s'.hs=s.hs++[(⟨id,b2,2⟩:Hc)]/\s'.ts=s.ts++[(⟨id,b,false⟩:Tc)]/\s'.Ok K S/\J1 w0 [] w' (s'.hp++r)
theorem Jms (hS:J1 w0 [] w (s.hp++r)) (hO:s.Ok K S) (h1:1<=id) (hn:id∉s.hs.map Hc.id):
 Calls Tryz.prog 6 #[ptr s.hb,.int .i64 id] w (J6v w0 r s K S id):=by
 have hC:=huC hS.own;have c1:=hC.h1;have hj:=hid (Jhd hS hO h1 hn);obtain⟨hb,hhb⟩:∃hb,hb=s.hb:=⟨_,rfl⟩
 obtain⟨tb,htb⟩:∃tb,tb=s.tb:=⟨_,rfl⟩
 rw[<-hhb] at c1⊢;rw[<-htb] at c1 hj;replace hn:=hid hn;replace hO:=hid hO;replace h1:=hid h1;replace htb:=hid htb;replace hhb:=hid hhb;clear hC hS;go_enter Tryz.func6,Tryz.ntmps6;go_wp2_with fail;refine hj.out.mono ?_;rintro e w1 ⟨rfl,o',b,hm',S1⟩;have S2:=S1.alloc (J2o ⟨id,w1.heap.size,2⟩);have hC2:=huC S2.own.tail;have hC1:=huC S1.own;have c2:w1.cell? ⟨s.hb,2,none⟩=some (.map (some s.hm)):=hC1.h2;have c2a:(w1.alloc (J2o ⟨id,w1.heap.size,2⟩)).cell? ⟨s.hb,2,none⟩=some (.map (some s.hm)):=hC2.h2;have mh2:(w1.alloc (J2o ⟨id,w1.heap.size,2⟩)).heap[s.hm]? =some s.ho:=hC2.mh;have hn2:id∉(s.hs.map Hc.ib).map Prod.fst:=by rw[J8i];exact hn.out
 obtain⟨o2,hup,hm2⟩:=J9n (P:=Tryz.prog) (t:=44) Tryz.underlying44 Tryz.underlying3 mh2 hO.out.hm (by rw[J99,J8i];exact hO.out.hn) id (ptr w1.heap.size)
 rw[Jif hn2] at hm2;have hdone:=hid (show J6v w0 r s K S id (.returned (.bool true)) _ from⟨rfl,({s with tmo:=o',ts:=s.ts++[(⟨id,b,false⟩:Tc)],ho:=o2,hs:=s.hs++[(⟨id,w1.heap.size,2⟩:Hc)]}:Hu),b,w1.heap.size,rfl,rfl,rfl,hO.out.join hm' (ho:=o2) (hb:=w1.heap.size) (by rw[List.map_append];exact hm2) hn.out,S2.addHc (c:=⟨id,w1.heap.size,2⟩) o2⟩)
 obtain⟨w2,hw2⟩:∃w2:World,w2={(w1.alloc (J2o ⟨id,w1.heap.size,2⟩)) with heap:=(w1.alloc (J2o ⟨id,w1.heap.size,2⟩)).heap.setIfInBounds s.hm o2}:=⟨_,rfl⟩
 replace hdone:Hid (J6v w0 r s K S id (.returned (.bool true)) w2):=by rw[hw2];exact hdone
 rw[<-hw2] at hup;rw[<-hhb.out] at c2 c2a;generalize s.hm=hm at c2 c2a hup;replace hup:(Instr.mapUpdate 44 (.map (some hm)) (.int .i64 id) (ptr w1.heap.size)).run Tryz.prog (w1.alloc (.cells #[.int .i64 2,.string ⟨#[]⟩] 49))= .ok () w2:=hup;clear c2a;clear hw2 hC1 hC2 mh2 S1 S2 hm' hm2 hj c1 hn2;go_wp2_with fail;go_ret;exact hdone.out
section
variable {w:World} {s:Hu} {r:Hp} {K:KSt} {S:St}
theorem Jm7 (ho:Own w (s.hp++r)):Calls Tryz.prog 11 #[ptr s.hb] w fun e w'=>e= .returned (ptr s.sto)/\w'=w:=by
 have h0:=(huC ho).h0;clear ho;go_enter Tryz.func11,Tryz.ntmps11;go_wp2_with fail;go_ret;exact⟨rfl,rfl⟩
theorem Jm8 (ho:Own w (s.hp++r)):Calls Tryz.prog 12 #[ptr s.hb] w fun e w'=>e= .returned (ptr s.tb)/\w'=w:=by
 have h0:=(huC ho).h1;clear ho;go_enter Tryz.func12,Tryz.ntmps12;go_wp2_with fail;go_ret;exact⟨rfl,rfl⟩
theorem Jm5 (ho:Own w (s.hp++r)) (hO:s.Ok K S) {c:Hc} (hc:c∈s.hs):Calls Tryz.prog 9 #[ptr s.hb,.int .i64 c.id] w fun e w'=>e= .returned (.int .i64 c.proto)/\w'=w:=by
 have hC:=huC ho;have h2:=hC.h2;have hlk:=Jkn ho hO hc;have q0:w.cell? ⟨c.b,0,none⟩=some (.int .i64 c.proto):=J0 (hC.hc c hc) 0;clear hC ho hO hc;go_enter Tryz.func9,Tryz.ntmps9;go_wp2_with fail;go_ret;exact⟨rfl,rfl⟩
theorem Jmt (ho:Own w (s.hp++r)) (hO:s.Ok K S) {id:Int} (hc:id∉s.hs.map Hc.id):Calls Tryz.prog 9 #[ptr s.hb,.int .i64 id] w fun e w'=>e= .returned (.int .i64 0)/\w'=w:=by
 have h2:=(huC ho).h2;have hlk:=Jfi ho hO hc;clear ho hO hc;go_enter Tryz.func9,Tryz.ntmps9;go_wp2_with fail;go_ret;exact⟨rfl,rfl⟩
theorem Jn4 (ho:Own w (s.hp++r)) (hO:s.Ok K S) {id:Int} (hc:id∉s.hs.map Hc.id):Calls Tryz.prog 10 #[ptr s.hb,.int .i64 id] w fun e w'=>e= .returned (.string ByteArray.empty)/\w'=w:=by
 have h2:=(huC ho).h2;have hlk:=Jfi ho hO hc;clear ho hO hc;go_enter Tryz.func10,Tryz.ntmps10;go_wp2_with fail;go_ret;exact⟨rfl,rfl⟩
end
theorem J1.touch {w2:World} (h:J1 w0 l w L) {b:Nat} {o:Obj} (hm:(b,o)∈L) (hb:w2.heap[b]? =some o) (hk:∀k,k≠b->w2.heap[k]? =w.heap[k]?) (ho:w2.os=w.os) (hp:w2.output=w.output):J1 w0 l w2 L:=by
 have hall:∀k:Nat,w2.heap[k]? =w.heap[k]? :=fun k=>by
  by_cases e:k=b
  ·subst e;rw[hb];exact(h.own.at_ (k,o) hm).symm
  ·exact hk k e
 exact h.heap (Array.ext_getElem? hall) ho hp
theorem J1.same7 (h:J1 w0 l w L) {c:Tc} (hm:(c.b,J25 c)∈L):J1 w0 l (w.setCell ⟨c.b,7,none⟩ (.int .i64 0)) L:=
 h.touch hm (J4f (.int .i64 0) (h.own.at_ (c.b,J25 c) hm)) (fun k hk=>Below.heap_setCell _ _ _ _ hk) rfl rfl
theorem Jlr {c:Tc} (hc:c∈s.ts):(c.b,J25 c)∈s.hp++r:=by
 refine List.mem_append_left _ ?_;exact List.mem_cons_of_mem _ (List.mem_cons_of_mem _ (List.mem_cons_of_mem _ (List.mem_cons_of_mem _ (List.mem_append_right _ (List.mem_append_left _ (List.mem_map.2 ⟨c,hc,rfl⟩))))))
theorem Jjq (hO:s.Ok K S) (hc:c∈s.hs):∃t∈s.ts,t.id=c.id:=by
 have h1:c.id∈s.ts.map Tc.id:=by rw[hO.tn];exact List.mem_map_of_mem hc
 obtain⟨t,ht,e⟩:=List.mem_map.1 h1
 exact⟨t,ht,e⟩
theorem Ji2 (hS:J1 w0 [] w (s.hp++r)) (hO:s.Ok K S) (hc:c∈s.hs):
 Calls Tryz.prog 17 #[ptr s.tb,.int .i64 c.id] w (Ji w0 (s.hp++r) (.tuple #[])):=by
 obtain⟨t,ht,he⟩:=Jjq hO hc
 have hC:=huC hS.own;have t0:=hC.t0;have hlk:=J6p hS.own hO ht;rw[he] at hlk;have hcell:=hC.tc _ ht;have q7:w.cell? ⟨t.b,7,none⟩=some (.int .i64 0):=J0 hcell 7;have fz:∀j,w.frozen? ⟨t.b,j,none⟩=false:=fun j=>J6 hcell j
 have hlt:t.b<w.heap.size:=Jc hcell;have S1:=hid (hS.same7 (Jlr ht));generalize s.tb=tb at t0⊢;generalize s.tm=tm at t0 hlk;generalize t.b=b at hlk q7 fz hlt S1;generalize c.id=id at hlk⊢;clear hS hO hc ht he hC hcell;go_enter Tryz.func17,Tryz.ntmps17;go_wp2_with fail;go_end0
 exact⟨rfl,S1.out⟩
theorem Jn1 (hS:J1 w0 [] w (s.hp++r)) (hO:s.Ok K S) (hc:c∈s.hs) {b2 b3:Nat} (h1:w.cell? ⟨b1,0,none⟩=some (.bool false)) (h2:w.cell? ⟨b2,0,none⟩=some (ptr s.hb)) (h3:w.cell? ⟨b3,0,none⟩=some (.int .i64 c.id)) (u:FrameMode):
 CallsD Tryz.prog 16 #[ptr b1,ptr b2,ptr b3] u w fun e u' w'=>u'=u/\(e= .returned (.tuple #[])/\J1 w0 [] w' (s.hp++r)):=by
 have hC:=huC hS.own;have c1:=hC.h1;have hd:=hid (Ji2 hS.drew hO hc);generalize s.hb=hb at h2 c1;generalize s.tb=tb at c1 hd;generalize c.id=id at h3 hd;clear hC hS hO hc;go_enter_d Tryz.func16,Tryz.ntmps16
 go_wp2_with fail;go_still_tail 5,(by kernel_rfl)
 go_wp2_with fail;refine hd.out.mono ?_;rintro e w' ⟨rfl,S1⟩;replace S1:=hid S1;clear hd;go_wp2_with fail;go_end0
 exact⟨rfl,S1.out⟩
theorem J1.plOut (h:J1 w0 l w (s.hp++r)):J1 w0 l w (s.pl++(({s with pl:=[]}:Hu).hp++r)):=
 h.permR (J2 fun f=>by
  rw[K6,List.map_append,List.sum_append,K6];show _=(s.pl.map f).sum+(f (s.hb,J1r s)+f (s.hm,s.ho)+f (s.tb,J1s s)+f (s.tm,s.tmo)+((J3d s.hs).map f).sum+((J3e s.ts).map f).sum+(s.kl.map f).sum+0+(s.sl.map f).sum+(r.map f).sum)
  omega)
theorem J1.plBack {pl:Hp} (h:J1 w0 l w (pl++(({s with pl:=[]}:Hu).hp++r))):J1 w0 l w (({s with pl:=pl}:Hu).hp++r):=
 h.permR (J2 fun f=>by
  rw[List.map_append,List.sum_append,K6,K6];show(pl.map f).sum+(f (s.hb,J1r s)+f (s.hm,s.ho)+f (s.tb,J1s s)+f (s.tm,s.tmo)+((J3d s.hs).map f).sum+((J3e s.ts).map f).sum+(s.kl.map f).sum+0+(s.sl.map f).sum+(r.map f).sum)=f (s.hb,J1r s)+f (s.hm,s.ho)+f (s.tb,J1s s)+f (s.tm,s.tmo)+((J3d s.hs).map f).sum+((J3e s.ts).map f).sum+(s.kl.map f).sum+(pl.map f).sum+(s.sl.map f).sum+(r.map f).sum
  omega)
theorem Jmq (w:World):(zeroValue 50).run Tryz.prog w= .ok (.slice none 0 0) w:=by kernel_rfl
def Ja9 (w0:World) (r:Hp) (pb:Nat) (e:Ending) (w':World):Prop:=e= .returned (.int .i64 0)/\∃pl,J5o pl pb/\J1 w0 [] w' (pl++r)
abbrev Jcl (tb rm om:Nat):Obj:=.cells #[ptr tb,.map (some rm),.int .i64 0,.map (some om)] 125 (0,0)
theorem Jgr {pl:Hp} {pb:Nat} (hS:J1 w0 [] w (pl++r)) (hP:J5o pl pb) (id:Int):Calls Tryz.prog 129 #[ptr pb,.int .i64 id] w (Ja9 w0 r pb):=by
 obtain⟨tb,rm,om,ro,oo,rfl,h1,h2⟩:=hP
 obtain⟨L,hL⟩:∃L:Hp,L=(w.heap.size,.cells #[.int .i64 id] 3)::(om,oo)::(pb,Jcl tb rm om)::(tb,J3y)::(rm,ro)::r:=⟨_,rfl⟩
 have S1:J1 w0 [] (w.alloc (.cells #[.int .i64 id] 3)) L:=hL▸(hS.alloc (.cells #[.int .i64 id] 3)).permR (J2 fun f=>by simp only[List.map_append,List.sum_append,List.map_cons,List.sum_cons,Jcl,List.cons_append,List.nil_append];omega)
 have hown:∀w',J1 w0 [] w' L->Own w' ((w.heap.size,.cells #[.int .i64 id] 3)::(om,oo)::(pb,Jcl tb rm om)::(tb,J3y)::(rm,ro)::r):=fun w' h=>hL▸h.own
 have x3:∀p:InW w0 [] L,p.w.cell? ⟨pb,3,none⟩=some (.map (some om)):=fun p=>J0 (hown _ p.h).tail.tail.head 3
 have x0:∀p:InW w0 [] L,p.w.cell? ⟨w.heap.size,0,none⟩=some (.int .i64 id):=fun p=>J0 (hown _ p.h).head 0
 have hlk:∀p:InW w0 [] L,(Instr.lookup 123 (.map (some om)) (.int .i64 id) false).run Tryz.prog p.w= .ok (.slice none 0 0) p.w:=fun p=>
  J23 (P:=Tryz.prog) (t:=123) Tryz.underlying123 Tryz.underlying3 Jmq (hown _ p.h).tail.head h2 id
 replace S1:=hid S1;replace hL:=hid hL;clear hown;replace h1:=hid h1;replace h2:=hid h2;clear hS;go_enter Tryz.func129,Tryz.ntmps129;go_wp2_with fail;refine J0q S1.out (by kernel_rfl) (by kernel_rfl) (fun hne=>?_)
 repeat (go_big_quiet_step (fail))
 refine J45 fun w1 S2=>?_
 replace S2:=hid S2;go_wp2_with fail;refine Jx 5 S2.out (by kernel_rfl) (by kernel_rfl) (fun hne=>?_)
 simp only[List.take_succ_cons,List.take_zero,List.drop_succ_cons,List.drop_zero];repeat (go_big_quiet_step (fail))
 refine J17 fun w2 S3=>?_
 rw[hL.out] at S3;obtain⟨oo2,hd,h3⟩:=Jdu (P:=Tryz.prog) (t:=123) Tryz.underlying123 Tryz.underlying3 0 S3.own.tail.head h2.out List.nodup_nil id 3
 have S4:=(S3.permR (l2:=(om,oo)::(w.heap.size,.cells #[.int .i64 id] 3)::(pb,Jcl tb rm om)::(tb,J3y)::(rm,ro)::r) (List.Perm.swap _ _ _)).obj' oo2;have hdone:=hid (show Ja9 w0 r pb (.returned (.int .i64 0)) _ from⟨rfl,_,⟨tb,rm,om,ro,oo2,rfl,h1.out,h3⟩,S4.pick (m:=[(w.heap.size,.cells #[.int .i64 id] 3)]) (J2 fun f=>by simp only[List.map_append,List.sum_append,List.map_cons,List.sum_cons,Jcl,List.cons_append,List.nil_append,List.map_nil,List.sum_nil];omega)⟩)
 obtain⟨w3,hw3⟩:∃w3:World,w3={w2 with heap:=w2.heap.setIfInBounds om oo2}:=⟨_,rfl⟩
 rw[<-hw3] at hd hdone;clear hw3 x3 x0 hlk hne S1 S2 S3 S4 hL h1 h2 h3;go_wp2_with fail;refine wp_loop_rounds 1 ?_;rw[rounds_succ];go_wp2_with fail;go_ret;exact hdone.out
abbrev Jdj (id:Int) (k:ByteArray):Value:=.agg #[.int .i64 1,.int .i64 id,.int .i64 id,.string k]
theorem Jmn (hS:J1 w0 [] w (s.hp++r)) (hO:s.Ok K S) (hc:c∈s.hs) (k:ByteArray):
 Calls Tryz.prog 69 #[ptr s.tb,.int .i64 1,.int .i64 c.id,.string k] w (Ji w0 (s.hp++r) (Jdj c.id k)):=by
 obtain⟨t,ht,he⟩:=Jjq hO hc
 have S1:=hS.alloc (.cells #[.int .i64 0,.int .i64 0,.int .i64 0,.string ByteArray.empty] 34 (0,0));have hC:=huC S1.own.tail;have t0:(w.alloc (.cells #[.int .i64 0,.int .i64 0,.int .i64 0,.string ⟨#[]⟩] 34)).cell? ⟨s.tb,0,none⟩=some (.map (some s.tm)):=hC.t0;have hlk:=J6p (r:=r) S1.own.tail hO ht;rw[he] at hlk;have hlk':(Instr.lookup 77 (.map (some s.tm)) (.int .i64 c.id) false).run Tryz.prog (w.alloc (.cells #[.int .i64 0,.int .i64 0,.int .i64 0,.string ⟨#[]⟩] 34))= .ok (ptr t.b) (w.alloc (.cells #[.int .i64 0,.int .i64 0,.int .i64 0,.string ⟨#[]⟩] 34)):=hlk;have q5:(w.alloc (.cells #[.int .i64 0,.int .i64 0,.int .i64 0,.string ⟨#[]⟩] 34)).cell? ⟨t.b,5,none⟩=some (.int .i64 0):=J0 (hC.tc _ ht) 5;have S2:=hid ((hS.alloc (.cells #[.int .i64 1,.int .i64 c.id,.int .i64 c.id,.string k] 34 (0,0))).less (List.sublist_cons_self _ _));generalize s.tb=tb at t0⊢;generalize s.tm=tm at t0 hlk';generalize t.b=b at hlk' q5;generalize c.id=id at hlk' S2⊢;clear hlk hC S1 hS hO hc ht he;go_enter Tryz.func69,Tryz.ntmps69;go_wp2_with fail;refine bodyPost_ret (v:=Jdj id k) (by simp[results,Tryz.results69,go_sem,Jdj, *]<;>rfl) rfl ?_
 exact⟨rfl,S2.out⟩
theorem Jhe (hS:J1 w0 [] w (s.hp++r)) (hO:s.Ok K S) {t:Tc} (ht:t∈s.ts):
 Calls Tryz.prog 74 #[ptr s.tb,.int .i64 t.id] w (Ji w0 (s.hp++r) (.tuple #[J0g t.on,.bool true])):=by
 have S1:=hS.alloc (Kr false);have hC:=huC S1.own.tail;have t0:=hC.t0;have hlk:=J6p (r:=r) S1.own.tail hO ht;have hcell:=hC.tc _ ht;have q0:(w.alloc (Kr false)).cell? ⟨t.b,0,none⟩=some (.bool t.on):=J0 hcell 0;have q1:(w.alloc (Kr false)).cell? ⟨t.b,1,none⟩=some (.bool false):=J0 hcell 1;have q2:(w.alloc (Kr false)).cell? ⟨t.b,2,none⟩=some (.bool false):=J0 hcell 2;have q3:(w.alloc (Kr false)).cell? ⟨t.b,3,none⟩=some (.bool false):=J0 hcell 3;have q4:(w.alloc (Kr false)).cell? ⟨t.b,4,none⟩=some (.bool false):=J0 hcell 4;have q5:(w.alloc (Kr false)).cell? ⟨t.b,5,none⟩=some (.int .i64 0):=J0 hcell 5;have q6:(w.alloc (Kr false)).cell? ⟨t.b,6,none⟩=some (.slice none 0 0):=J0 hcell 6;have hcp:=hid (Jfg S1 t.on);generalize s.tb=tb at t0⊢;generalize s.tm=tm at t0 hlk;generalize t.b=tcb at hlk q0 q1 q2 q3 q4 q5 q6;generalize t.id=id at hlk⊢;generalize t.on=on at q0 hcp⊢;unfold Kr at t0 hlk q0 q1 q2 q3 q4 q5 q6;unfold J0g at hcp⊢;clear hC S1 hS hO ht hcell;go_enter Tryz.func74,Tryz.ntmps74;go_wp2_with fail;refine hcp.out.mono ?_;rintro e w1 ⟨rfl,S5⟩;clear hcp t0 hlk q0 q1 q2 q3 q4 q5 q6;generalize w.heap.size=b at S5⊢;have p0:w1.cell? ⟨b,0,none⟩=some (.bool false):=J0 S5.own.head 0;have p1:w1.cell? ⟨b,1,none⟩=some (.bool false):=J0 S5.own.head 1;have p2:w1.cell? ⟨b,2,none⟩=some (.bool false):=J0 S5.own.head 2;have p3:w1.cell? ⟨b,3,none⟩=some (.bool false):=J0 S5.own.head 3;have p4:w1.cell? ⟨b,4,none⟩=some (.bool false):=J0 S5.own.head 4;have p5:w1.cell? ⟨b,5,none⟩=some (.int .i64 0):=J0 S5.own.head 5;have p6:w1.cell? ⟨b,6,none⟩=some (.slice none 0 0):=J0 S5.own.head 6;have fz:∀j,w1.frozen? ⟨b,j,none⟩=false:=fun j=>J6 S5.own.head j
 have hlt:=Jc S5.own.head;have S6:=hid ((S5.setMd (.bool on) (.bool false) (.bool false) (.bool false) (.bool false) (.int .i64 0) (.slice none 0 0)).less (List.sublist_cons_self _ _));clear S5;go_wp2_with fail;refine bodyPost_ret (v:=.tuple #[J0g on,.bool true]) (by simp[results,Tryz.results74,go_sem,J0g, *]<;>rfl) rfl ?_
 exact⟨rfl,S6.out⟩
theorem Jh8 (hS:J1 w0 [] w r) (k:ByteArray):Calls Tryz.prog 23 #[.string k] w (Ji w0 r (J3 4 k 0 (.slice none 0 0))):=by
 have S1:=hS.alloc J5;have h:=hid (Jb7 S1 k);unfold J3 at h;clear hS S1;go_enter Tryz.func23,Tryz.ntmps23;go_wp2_with fail;refine h.out.mono ?_;rintro e w1 ⟨rfl,S2⟩;generalize w.heap.size=b at S2⊢;obtain⟨⟨c0,hc0⟩,⟨c1,hc1⟩,⟨c2,hc2⟩,⟨c3,hc3⟩,⟨c4,hc4⟩,⟨c5,hc5⟩,fz,hlt⟩:=Jl S2.own.head
 have S3:=hid ((S2.setVal 4 k 0 (.slice none 0 0)).less (List.sublist_cons_self _ _));clear h S2;go_wp2_with fail;refine bodyPost_ret (v:=J3 4 k 0 (.slice none 0 0)) (by simp[results,Tryz.results23,go_sem,J3, *]<;>rfl) rfl ?_
 exact⟨rfl,S3.out⟩
theorem Jh3 (hS:J1 w0 [] w r) {n:Int} (hn:J0u n):Calls Tryz.prog 75 #[.int .i64 n] w (Ji w0 r (J3 2 (Jo n) 0 (.slice none 0 0))):=by
 have S1:=hS.alloc J5;have h:=hid (J2f S1 (Jo n));have he:=hid (J6s (w.alloc J5) n hn);unfold J3 at h;generalize Jo n=k at h he⊢;clear hS S1 hn;go_enter Tryz.func75,Tryz.ntmps75;go_wp2_with fail;refine he.out.mono ?_;rintro e w9 ⟨rfl,hw9⟩;subst hw9;clear he;go_wp2_with fail;refine h.out.mono ?_;rintro e w1 ⟨rfl,S2⟩;generalize w.heap.size=b at S2⊢;obtain⟨⟨c0,hc0⟩,⟨c1,hc1⟩,⟨c2,hc2⟩,⟨c3,hc3⟩,⟨c4,hc4⟩,⟨c5,hc5⟩,fz,hlt⟩:=Jl S2.own.head
 have S3:=hid ((S2.setVal 2 k 0 (.slice none 0 0)).less (List.sublist_cons_self _ _));clear h S2;go_wp2_with fail;refine bodyPost_ret (v:=J3 2 k 0 (.slice none 0 0)) (by simp[results,Tryz.results75,go_sem,J3, *]<;>rfl) rfl ?_
 exact⟨rfl,S3.out⟩
abbrev okB:ByteArray:=⟨#[79,75]⟩
theorem Jjb (hS:J1 w0 [] w r):Calls Tryz.prog 135 #[.int .i64 0] w (Ji w0 r (J3 1 okB 0 (.slice none 0 0))):=by
 have S1:=hS.alloc J5;have h:=hid (Jcc S1);unfold J3 at h;clear hS S1;go_enter Tryz.func135,Tryz.ntmps135;go_wp2_with fail;refine h.out.mono ?_;rintro e w1 ⟨rfl,S2⟩;generalize w.heap.size=b at S2⊢;obtain⟨⟨c0,hc0⟩,⟨c1,hc1⟩,⟨c2,hc2⟩,⟨c3,hc3⟩,⟨c4,hc4⟩,⟨c5,hc5⟩,fz,hlt⟩:=Jl S2.own.head
 have S3:=hid ((S2.setVal 1 okB 0 (.slice none 0 0)).less (List.sublist_cons_self _ _));clear h S2;go_wp2_with fail;refine bodyPost_ret (v:=J3 1 okB 0 (.slice none 0 0)) (by simp[results,Tryz.results135,go_sem,J3, *]<;>rfl) rfl ?_
 exact⟨rfl,S3.out⟩
theorem Jf3 (hS:J1 w0 [] w r):Calls Tryz.prog 135 #[.int .i64 132] w (Ji w0 r (J3 2 (Jo 132) 0 (.slice none 0 0))):=by
 have S1:=hS.alloc J5;have h:=hid (Jh3 S1 (n:=132) (by unfold J0u;omega))
 unfold J3 at h;generalize Jo 132=k at h⊢;clear hS S1;go_enter Tryz.func135,Tryz.ntmps135;go_wp2_with fail;refine h.out.mono ?_;rintro e w1 ⟨rfl,S2⟩;generalize w.heap.size=b at S2⊢;obtain⟨⟨c0,hc0⟩,⟨c1,hc1⟩,⟨c2,hc2⟩,⟨c3,hc3⟩,⟨c4,hc4⟩,⟨c5,hc5⟩,fz,hlt⟩:=Jl S2.own.head
 have S3:=hid ((S2.setVal 2 k 0 (.slice none 0 0)).less (List.sublist_cons_self _ _));clear h S2;go_wp2_with fail;refine bodyPost_ret (v:=J3 2 k 0 (.slice none 0 0)) (by simp[results,Tryz.results135,go_sem,J3, *]<;>rfl) rfl ?_
 exact⟨rfl,S3.out⟩
theorem Jkr (h0:w.cell? ⟨g,0,none⟩=some (.string ⟨#[50]⟩)) (h1:w.cell? ⟨g,1,none⟩=some (.string ⟨#[51]⟩)):
 Calls Tryz.prog 73 #[.slice (some ⟨g,0,none⟩) 2 2,.string ⟨#[51]⟩] w fun e w'=>e= .returned (.int .i64 1)/\w'=w:=by
 go_enter Tryz.func73,Tryz.ntmps73;go_wp2_with fail;refine wp_loop_rounds 2 ?_;rw[rounds_succ];go_wp2_with fail;rw[rounds_succ];go_wp2_with fail;go_ret;exact⟨rfl,rfl⟩
theorem Jks (h0:w.cell? ⟨g,0,none⟩=some (.string ⟨#[50]⟩)) (h1:w.cell? ⟨g,1,none⟩=some (.string ⟨#[51]⟩)):
 Calls Tryz.prog 73 #[.slice (some ⟨g,0,none⟩) 2 2,.string ⟨#[52]⟩] w fun e w'=>e= .returned (.int .i64 (-1))/\w'=w:=by
 go_enter Tryz.func73,Tryz.ntmps73;go_wp2_with fail;refine wp_loop_rounds 3 ?_;rw[rounds_succ];go_wp2_with fail;rw[rounds_succ];go_wp2_with fail;rw[rounds_succ];go_wp2_with fail;go_ret;exact⟨rfl,rfl⟩
abbrev J09 (hb cb:Nat) (id:Int) (args:Value):Obj:=.cells #[ptr hb,ptr cb,.int .i64 id,args] 58 (0,0)
def J0o (hb cb:Nat) (id:Int) (args:Value):Value:=.agg #[ptr hb,ptr cb,.int .i64 id,args]
structure Jnr (w:World) (b1 b0 hb cb:Nat) (id:Int) (args:Value):Prop where
 a0:w.cell? ⟨b0,0,none⟩=some (ptr hb)
 a1:w.cell? ⟨b0,1,none⟩=some (ptr cb)
 a2:w.cell? ⟨b0,2,none⟩=some (.int .i64 id)
 a3:w.cell? ⟨b0,3,none⟩=some args
 z0:w.cell? ⟨b1,0,none⟩=some (.int .i64 0)
 z1:w.cell? ⟨b1,1,none⟩=some (.string ByteArray.empty)
 z2:w.cell? ⟨b1,2,none⟩=some (.int .i64 0)
 z3:w.cell? ⟨b1,3,none⟩=some (.float .f64 0)
 z4:w.cell? ⟨b1,4,none⟩=some (.bool false)
 z5:w.cell? ⟨b1,5,none⟩=some (.slice none 0 0)
 fz:∀j,w.frozen? ⟨b1,j,none⟩=false
 hlt:b1<w.heap.size
theorem J3i {b0 hb cb:Nat} {args:Value} (h:Own w (L++((b1,J5)::(b0,J09 hb cb id args)::r))):Jnr w b1 b0 hb cb id args:=by
 have k1:=h.right.head;have k0:=h.right.tail.head;exact⟨J0 k0 0,J0 k0 1,J0 k0 2,J0 k0 3,J0 k1 0,J0 k1 1,J0 k1 2,J0 k1 3,J0 k1 4,J0 k1 5,fun j=>J6 k1 j,Jc k1⟩
theorem J2r {p:Nat×Obj} (h:J1 w0 [] w (L++((b1,J5)::p::r))) (kd:Int) (tx:ByteArray) (nn:Int) (lv:Value):
 J1 w0 [] ((((((w.setCell ⟨b1,0,none⟩ (.int .i64 kd)).setCell ⟨b1,1,none⟩ (.string tx)).setCell ⟨b1,2,none⟩ (.int .i64 nn)).setCell ⟨b1,3,none⟩ (.float .f64 0)).setCell ⟨b1,4,none⟩ (.bool false)).setCell ⟨b1,5,none⟩ lv) (L++r):=by
 have h1:=(h.permR (l2:=(b1,J5)::(p::(L++r))) (J2 fun f=>by simp only[SC];omega)).setVal kd tx nn lv
 exact h1.less ((List.sublist_cons_self _ _).trans (List.sublist_cons_self _ _))
theorem J1.ask (h:J1 w0 [] w (L++r)) (o:Obj):J1 w0 [] ((w.alloc o).alloc J5) (L++((w.heap.size+1,J5)::(w.heap.size,o)::r)):=by
 have h1:=(h.alloc o).alloc J5;rw[World.size_alloc] at h1;exact h1.permR (J2 fun f=>by simp only[SC];omega)
def J67 (w0:World) (r:Hp) (g off:Nat) (k:ByteArray):Prop:=∀w' x,J1 w0 [] w' (x++r)->w'.cell? ⟨g,off,none⟩=some (.string k)
theorem J67.more {off:Nat} {k:ByteArray} (h:J67 w0 r g off k) (y:Hp):J67 w0 (y++r) g off k:=fun w' x hs=>h w' (x++y) (by rw[List.append_assoc];exact hs)
def J37:ByteArray:=⟨#[78,79,80,82,79,84,79,32,117,110,115,117,112,112,111,114,116,101,100,32,112,114,111,116,111,99,111,108,32,118,101,114,115,105,111,110]⟩
theorem Jnp (hS:J1 w0 [] w (s.hp++r)) (hO:s.Ok K S) (hc:c∈s.hs) {off cap:Nat} (hg:J67 w0 r g off ⟨#[52]⟩):
 Calls Tryz.prog 40 #[J0o s.hb c.b c.id (.slice (some ⟨g,off,none⟩) 1 cap)] w (Ji w0 (s.hp++r) (J3 2 J37 0 (.slice none 0 0))):=by
 have S1:=hS.ask (J09 s.hb c.b c.id (.slice (some ⟨g,off,none⟩) 1 cap));obtain⟨w1,hw1⟩:∃w1,w1=(w.alloc (J09 s.hb c.b c.id (.slice (some ⟨g,off,none⟩) 1 cap))).alloc J5:=⟨_,rfl⟩
 rw[<-hw1] at S1;generalize hb0:w.heap.size=b0 at S1;obtain⟨a0,a1,a2,a3,z0,z1,z2,z3,z4,z5,fz,hlt⟩:=J3i S1.own
 have hp:w1.cell? ⟨c.b,0,none⟩=some (.int .i64 c.proto):=J0 ((huC S1.own).hc c hc) 0;have S2:=S1.alloc (.cells #[.string ⟨#[50]⟩,.string ⟨#[51]⟩] 9);have n3:(w1.alloc (.cells #[.string ⟨#[50]⟩,.string ⟨#[51]⟩] 9)).cell? ⟨b0,3,none⟩=some (.slice (some ⟨g,off,none⟩) 1 cap):=(J3i (L:=(w1.heap.size,_)::s.hp) S2.own).a3;have ng:(w1.alloc (.cells #[.string ⟨#[50]⟩,.string ⟨#[51]⟩] 9)).cell? ⟨g,off,none⟩=some (.string ⟨#[52]⟩):=(hg.more [_,_]) _ ((w1.heap.size,_)::s.hp) S2;have hix:=hid (Jks (J0 S2.own.head 0) (J0 S2.own.head 1));have hf:=hid (J2f S2 J37);unfold J3 J37 at hf;generalize c.proto=pr at hp;generalize c.id=id at a2 n3 a3 S1 S2 hw1⊢;generalize c.b=cb at hp a1 hw1⊢;generalize s.hb=hb at a0 hw1⊢;clear hO hc hg hS S1 S2;unfold J0o;go_enter Tryz.func40,Tryz.ntmps40;go_upto_region 1 with fail;generalize hw2:(w.alloc _).alloc _=w2;obtain rfl:w1=w2:=hw1.trans hw2;try rw[hb0]
 clear hw1 hw2 hb0;go_wp2_with fail;refine hix.out.mono ?_;rintro e w3 ⟨rfl,rfl⟩;clear hix;go_wp2_with fail;refine hf.out.mono ?_;rintro e w4 ⟨rfl,S3⟩;clear hf n3 ng a0 a1 a2 a3 z0 z1 z2 z3 z4 z5 fz hlt hp;have S4:=S3.less (List.sublist_cons_self _ _);obtain⟨a0,a1,a2,a3,z0,z1,z2,z3,z4,z5,fz,hlt⟩:=J3i S4.own
 have S5:=hid (J2r S4 2 J37 0 (.slice none 0 0));clear S3 S4;unfold J37 at S5;go_wp2_with fail;refine bodyPost_ret (v:=J3 2 J37 0 (.slice none 0 0)) (by simp[results,Tryz.results40,go_sem,J3,J37, *]<;>rfl) rfl ?_
 exact⟨rfl,S5.out⟩
end Go.Proofs.YtefjbegnlolgbaaGreatDoor
