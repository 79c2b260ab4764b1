/-
track.Set: a client's mode is on.
-/
import Derived.Test.YtefjbegnlolgbaaGreatDoorQ25
set_option linter.unusedVariables false
set_option linter.unusedSimpArgs false
set_option maxRecDepth 100000
set_option maxHeartbeats 8000000
namespace Go.Proofs.YtefjbegnlolgbaaGreatDoor
open Go Go.RowKit
variable {w0 w:World}{l r L:Hp}{t:Tc}{b a:List Tc}{s:Hu}{K:KSt}{S:St}{Q:Int → ByteArray → Int → Value → Hp → Prop}{hb cb g off:Nat}{id:Int}{args:Value}{c:Hc}
theorem Jne (o0 o1 o2 o3 o4 o5 o6 o7 v0 v1 v2 v3 v4 v5 v6:Value):(((((((#[o0,o1,o2,o3,o4,o5,o6,o7]:Array Value).setIfInBounds 0 v0).setIfInBounds 1 v1).setIfInBounds 2 v2).setIfInBounds 3 v3).setIfInBounds 4 v4).setIfInBounds 5 v5).setIfInBounds 6 v6= #[v0,v1,v2,v3,v4,v5,v6,o7]:=by kernel_rfl
theorem J1.setTc (h:J1 w0 l w ((t.b,J25 t)::r)) (on:Bool):
 J1 w0 l (((((((w.setCell ⟨t.b,0,none⟩ (.bool on)).setCell ⟨t.b,1,none⟩ (.bool false)).setCell ⟨t.b,2,none⟩ (.bool false)).setCell ⟨t.b,3,none⟩ (.bool false)).setCell ⟨t.b,4,none⟩ (.bool false)).setCell ⟨t.b,5,none⟩ (.int .i64 0)).setCell ⟨t.b,6,none⟩ (.slice none 0 0)) ((t.b,J25 {t with on:=on})::r):=by
 have k:=((((((h.set 0 (.bool on)).set 1 (.bool false)).set 2 (.bool false)).set 3 (.bool false)).set 4 (.bool false)).set 5 (.int .i64 0)).set 6 (.slice none 0 0);rw[Jne] at k;exact k
structure Jg2 (tcb b5:Nat) (w:World):Prop where
 q0:w.cell? ⟨tcb,0,none⟩=some (.bool false)
 q1:w.cell? ⟨tcb,1,none⟩=some (.bool false)
 q2:w.cell? ⟨tcb,2,none⟩=some (.bool false)
 q3:w.cell? ⟨tcb,3,none⟩=some (.bool false)
 q4:w.cell? ⟨tcb,4,none⟩=some (.bool false)
 q5:w.cell? ⟨tcb,5,none⟩=some (.int .i64 0)
 q6:w.cell? ⟨tcb,6,none⟩=some (.slice none 0 0)
 p0:w.cell? ⟨b5,0,none⟩=some (.bool true)
 p1:w.cell? ⟨b5,1,none⟩=some (.bool false)
 p2:w.cell? ⟨b5,2,none⟩=some (.bool false)
 p3:w.cell? ⟨b5,3,none⟩=some (.bool false)
 p4:w.cell? ⟨b5,4,none⟩=some (.bool false)
 p5:w.cell? ⟨b5,5,none⟩=some (.int .i64 0)
 p6:w.cell? ⟨b5,6,none⟩=some (.slice none 0 0)
theorem Jnf {b5:Nat} (h:Own w L) (hoff:t.on=false) (h1:(t.b,J25 t)∈L) (h2:(b5,Kr true)∈L):Jg2 t.b b5 w:=by
 have k1:=h.at_ _ h1;have k2:=h.at_ _ h2;exact⟨hoff▸J0 k1 0,J0 k1 1,J0 k1 2,J0 k1 3,J0 k1 4,J0 k1 5,J0 k1 6,J0 k2 0,J0 k2 1,J0 k2 2,J0 k2 3,J0 k2 4,J0 k2 5,J0 k2 6⟩
theorem Jg2.all {tcb b5:Nat} {R:Hp} (h:Jg2 tcb b5 w) (hx:Hid (InX w0 R w)):w.cell? ⟨tcb,0,none⟩=some (.bool false)/\w.cell? ⟨tcb,1,none⟩=some (.bool false)/\w.cell? ⟨tcb,2,none⟩=some (.bool false)/\w.cell? ⟨tcb,3,none⟩=some (.bool false)/\w.cell? ⟨tcb,4,none⟩=some (.bool false)/\w.cell? ⟨tcb,5,none⟩=some (.int .i64 0)/\w.cell? ⟨tcb,6,none⟩=some (.slice none 0 0)/\w.cell? ⟨b5,0,none⟩=some (.bool true)/\w.cell? ⟨b5,1,none⟩=some (.bool false)/\w.cell? ⟨b5,2,none⟩=some (.bool false)/\w.cell? ⟨b5,3,none⟩=some (.bool false)/\w.cell? ⟨b5,4,none⟩=some (.bool false)/\w.cell? ⟨b5,5,none⟩=some (.int .i64 0)/\w.cell? ⟨b5,6,none⟩=some (.slice none 0 0)/\Hid (InX w0 R w):=
 ⟨h.q0,h.q1,h.q2,h.q3,h.q4,h.q5,h.q6,h.p0,h.p1,h.p2,h.p3,h.p4,h.p5,h.p6,hx⟩
theorem InX.set7 {R A:Hp} {nb:Nat} {o0 o1 o2 o3 o4 o5 o6:Value} {t:TypeId} (h:J1 w0 [] w ((nb,.cells #[o0,o1,o2,o3,o4,o5,o6] t (0,0))::(A++R))) (v0 v1 v2 v3 v4 v5 v6:Value):
 Hid (InX w0 R (((((((w.setCell ⟨nb,0,none⟩ v0).setCell ⟨nb,1,none⟩ v1).setCell ⟨nb,2,none⟩ v2).setCell ⟨nb,3,none⟩ v3).setCell ⟨nb,4,none⟩ v4).setCell ⟨nb,5,none⟩ v5).setCell ⟨nb,6,none⟩ v6)):=
 hid ⟨(nb,.cells #[v0,v1,v2,v3,v4,v5,v6] t (0,0))::A,h.setMd v0 v1 v2 v3 v4 v5 v6⟩
theorem Jff {b:Nat} {o0 o1 o2 o3 o4 o5 o6:Value} {t:TypeId} (h:Own w ((b,.cells #[o0,o1,o2,o3,o4,o5,o6] t (0,0))::L)):
 w.cell? ⟨b,0,none⟩=some o0/\w.cell? ⟨b,1,none⟩=some o1/\w.cell? ⟨b,2,none⟩=some o2/\w.cell? ⟨b,3,none⟩=some o3/\w.cell? ⟨b,4,none⟩=some o4/\w.cell? ⟨b,5,none⟩=some o5/\w.cell? ⟨b,6,none⟩=some o6/\(∀j,w.frozen? ⟨b,j,none⟩=false)/\b<w.heap.size:=
 ⟨J0 h.head 0,J0 h.head 1,J0 h.head 2,J0 h.head 3,J0 h.head 4,J0 h.head 5,J0 h.head 6,fun j=>J6 h.head j,Jc h.head⟩
def Jfe (w0:World) (r:Hp) (s:Hu) (ts:List Tc) (e:Ending) (w':World):Prop:=e= .returned (.int .i64 0)/\∃pl,J5o pl s.pb/\J1 w0 [] w' (({s with ts:=ts,pl:=pl}:Hu).hp++r)
theorem Jl5 {pl:Hp} (h:J1 w0 [] w (pl++(({s with ts:=a++t::b,pl:=[]}:Hu).hp++r))):J1 w0 [] w (({s with ts:=a++t::b,pl:=pl}:Hu).hp++r):=J1.plBack (s:={s with ts:=a++t::b}) h
theorem Jl8 (hS:J1 w0 [] w (s.hp++r)) (hO:s.Ok K S) (ht:s.ts=a++t::b) (hoff:t.on=false):
 Calls Tryz.prog 72 #[ptr s.tb,.int .i64 t.id,J0g true] w (Jfe w0 r s (a++{t with on:=true}::b)):=by
 have hmem:t∈s.ts:=by rw[ht];simp
 have S1:=hS.alloc (Kr true);have hC:=huC S1.own.tail;have t0:(w.alloc (.cells #[.bool true,.bool false,.bool false,.bool false,.bool false,.int .i64 0,.slice none 0 0] 86)).cell? ⟨s.tb,0,none⟩=some (.map (some s.tm)):=hC.t0;have hlk:(Instr.lookup 77 (.map (some s.tm)) (.int .i64 t.id) false).run Tryz.prog (w.alloc (.cells #[.bool true,.bool false,.bool false,.bool false,.bool false,.int .i64 0,.slice none 0 0] 86))= .ok (ptr t.b) _:=J6p (r:=r) S1.own.tail hO hmem;have hr:=hid (Jdr S1);unfold J0g at hr⊢;obtain⟨R,hR⟩:∃R:Hp,R=(w.heap.size,Kr true)::(s.hp++r):=⟨_,rfl⟩
 have hm1:(t.b,J25 t)∈R:=by rw[hR];exact List.mem_cons_of_mem _ (Jlr hmem)
 have hm2:(w.heap.size,Kr true)∈R:=by rw[hR];exact List.mem_cons_self
 obtain⟨b5,hb5⟩:∃b5,b5=w.heap.size:=⟨_,rfl⟩
 obtain⟨tb,htb⟩:∃tb,tb=s.tb:=⟨_,rfl⟩
 obtain⟨tcb,htcb⟩:∃tcb,tcb=t.b:=⟨_,rfl⟩
 obtain⟨id,hid'⟩:∃id,id=t.id:=⟨_,rfl⟩
 have hcell:Hid (∀w':World,Hid (InX w0 R w')->Jg2 tcb b5 w'):=hid fun w' hx=>by
  obtain⟨x,hw⟩:=hx.out
  exact htcb▸Jnf hw.own hoff (List.mem_append_right _ hm1) (List.mem_append_right _ (hb5▸hm2))
 have hsw:∀(w':World) (x:Hp),Hid (J1 w0 [] w' (x++R)->_):=fun w' x=>hid fun hw=>Jh9 hw
 unfold J0g at hsw;rw[<-htb] at t0⊢;rw[<-htcb] at hlk;rw[<-hid'] at hlk⊢;have hb5':w.heap.size=b5:=hb5.symm;rw[<-hR] at hr;replace hO:=hid hO;replace ht:=hid ht;replace hoff:=hid hoff;replace hmem:=hid hmem;replace hR:=hid hR;replace hm1:=hid hm1;replace hm2:=hid hm2;replace htb:=hid htb;replace htcb:=hid htcb;replace hid':=hid hid';replace hb5:=hid hb5;clear hC S1 hS;go_enter Tryz.func72,Tryz.ntmps72;go_wp2_with fail;refine hr.out.mono ?_;rintro e w1 ⟨rfl,S2⟩;clear hr t0 hlk;have x5:∀p:InW w0 [] R,p.w.cell? ⟨b5,5,none⟩=some (.int .i64 0):=fun p=>(hcell.out _ (hid ⟨[],p.h⟩)).p5
 replace S2:=hid S2;try rw[hb5']
 clear hb5';go_wp2_with fail;refine J0q S2.out (by kernel_rfl) (by kernel_rfl) (fun hne=>?_)
 repeat (go_big_quiet_step (fail))
 refine J45 fun w2 S3=>?_
 replace S3:=hid S3;clear x5 S2 hne;go_wp2_with fail;have hs1:Hid (J1 w0 [] w2.drew ([]++R)):=hid S3.out.drew;have hs2:Hid (∀o:Obj,J1 w0 [] (w2.drew.alloc o) ([(w2.heap.size,o)]++R)):=hid fun o=>S3.out.drew.alloc o
 obtain⟨q0,q1,q2,q3,q4,q5,q6,p0,p1,p2,p3,p4,p5,p6⟩:=hcell.out w2.drew (hid ⟨[],S3.out.drew⟩)
 have hal:∀o,Jg2 tcb b5 (w2.alloc o).drew:=fun o=>hcell.out _ (hid ⟨[(w2.drew.heap.size,o)],S3.out.drew.alloc o⟩)
 have Q0:=fun o=>(hal o).q0
 have Q1:=fun o=>(hal o).q1
 have Q2:=fun o=>(hal o).q2
 have Q3:=fun o=>(hal o).q3
 have Q4:=fun o=>(hal o).q4
 have Q5:=fun o=>(hal o).q5
 have Q6:=fun o=>(hal o).q6
 have P0:=fun o=>(hal o).p0
 have P1:=fun o=>(hal o).p1
 have P2:=fun o=>(hal o).p2
 have P3:=fun o=>(hal o).p3
 have P4:=fun o=>(hal o).p4
 have P5:=fun o=>(hal o).p5
 have P6:=fun o=>(hal o).p6
 clear hal;have l5:b5<w2.heap.size:=World.block_lt_of_cell? w2.drew _ p0;have lt:tcb<w2.heap.size:=World.block_lt_of_cell? w2.drew _ q0;have n5:¬b5=w2.heap.size:=by omega
 have nt:¬tcb=w2.heap.size:=by omega
 go_cut [8,9] (fun s8 s9 wc=>∃nb,s8= .pointer (some ⟨nb,0,none⟩)/\s9= .int .i64 0/\Hid (J1 w0 [] wc ((nb,Kr true)::R)))
 case first=>
  go_region_with (first|(go_at_call 128;refine((hsw _ _).out hs1.out).mono ?_;rintro e w3 ⟨rfl,S4⟩;have hend:Hid (J1 w0 [] (w3.alloc (Kr true)) ((w3.heap.size,Kr true)::R)):=hid (S4.alloc _);clear S4)|(go_at_call 128;refine((hsw _ _).out (hs2.out _)).mono ?_;rintro e w3 ⟨rfl,S4⟩;obtain⟨z0,z1,z2,z3,z4,z5,z6,fz,zl⟩:=Jff S4.own;have hend:=hid (S4.setMd (.bool true) (.bool false) (.bool false) (.bool false) (.bool false) (.int .i64 0) (.slice none 0 0));clear S4))
  all_goals (go_wp2_with fail;go_meet;exact⟨_,rfl,rfl,hend⟩)
 case rest=>
  obtain⟨nb,rfl,rfl,S5⟩:=hcut
  clear hs1 hs2 q0 q1 q2 q3 q4 q5 q6 p0 p1 p2 p3 p4 p5 p6 Q0 Q1 Q2 Q3 Q4 Q5 Q6 P0 P1 P2 P3 P4 P5 P6 l5 lt n5 nt hsw hcell S3;rename_i wc
  have S6:J1 w0 [] wc (s.hp++((nb,Kr true)::(b5,Kr true)::r)):=S5.out.permR (J2 fun f=>by
   rw[hR.out,<-hb5.out];simp only[SC];omega)
  have S7:=S6.tcOut ht.out;have n7:Jg2 tcb nb wc:=htcb.out▸Jnf S7.own hoff.out List.mem_cons_self (List.mem_cons_of_mem _ (List.mem_append_right _ List.mem_cons_self));obtain⟨q0,q1,q2,q3,q4,q5,q6,p0,p1,p2,p3,p4,p5,p6⟩:=n7
  have fz:∀j,wc.frozen? ⟨tcb,j,none⟩=false:=fun j=>by rw[htcb.out];exact J6 S7.own.head j
  have hlt:tcb<wc.heap.size:=by rw[htcb.out];exact Jc S7.own.head
  have S8:=J1.tcBack (s:=s) (c:={t with on:=true}) (S7.setTc true)
  rw[<-htcb.out] at S8;have S9:=J1.plOut S8;have hpd:=hid (Jgr S9 hO.out.pr t.id);have t2:=(huC S8.own).t2;simp only at t2 hpd
  rw[<-htb.out] at t2;rw[<-hid'.out] at hpd;clear S5 S6 S7 S8 S9;go_wp2_with fail;refine hpd.out.mono ?_;rintro e w9 ⟨rfl,pl',hP',S10⟩;clear hpd q0 q1 q2 q3 q4 q5 q6 p0 p1 p2 p3 p4 p5 p6 fz hlt t2;have p0:w9.cell? ⟨nb,0,none⟩=some (.bool true):=J0 S10.own.right.right.head 0;have p6:w9.cell? ⟨nb,6,none⟩=some (.slice none 0 0):=J0 S10.own.right.right.head 6;rw[htcb.out,hid'.out] at S10;have S11:=Jl5 (s:=s) (a:=a) (b:=b) (t:={t with on:=true}) S10
  have hdone:=hid (show Jfe w0 r s (a++{t with on:=true}::b) (.returned (.int .i64 0)) w9 from⟨rfl,pl',hP',S11.pick (m:=[(nb,Kr true),(b5,Kr true)]) (J2 fun f=>by simp only[SC];omega)⟩)
  clear S10 S11 hP';go_wp2_with fail;refine wp_loop_rounds 1 ?_;rw[rounds_succ];go_wp2_with fail;go_ret;have hdone2:=hdone.out;rw[<-hid'.out] at hdone2;exact hdone2
def J3w (w0:World) (r:Hp) (Q:Int->ByteArray->Int->Value->Hp->Prop) (e:Ending) (w':World):Prop:=∃kd tx nn a n c L,e= .returned (J3 kd tx nn (.slice a n c))/\Q kd tx nn (.slice a n c) L/\J1 w0 [] w' (L++r)
theorem Ji.ask {kd nn:Int} {tx:ByteArray} {e:Ending} {w':World} (h:Ji w0 (L++r) (J3 kd tx nn (.slice none 0 0)) e w') (hQ:Q kd tx nn (.slice none 0 0) L):J3w w0 r Q e w':=
 ⟨kd,tx,nn,none,0,0,L,h.1,hQ,h.2⟩
abbrev idB:ByteArray:=⟨#[73,68]⟩
abbrev J9u:ByteArray:=⟨#[84,82,65,67,75,73,78,71]⟩
theorem Jnq (hS:J1 w0 [] w (L++r)) (hg:J67 w0 r g off idB):
 Calls Tryz.prog 41 #[J0o hb cb id (.slice (some ⟨g,off,none⟩) 1 1)] w (Ji w0 (L++r) (J3 3 ByteArray.empty id (.slice none 0 0))):=by
 have S1:=hS.ask (J09 hb cb id (.slice (some ⟨g,off,none⟩) 1 1));obtain⟨w1,hw1⟩:∃w1,w1=(w.alloc (J09 hb cb id (.slice (some ⟨g,off,none⟩) 1 1))).alloc J5:=⟨_,rfl⟩
 rw[<-hw1] at S1;generalize hb0:w.heap.size=b0 at S1;obtain⟨a0,a1,a2,a3,z0,z1,z2,z3,z4,z5,fz,hlt⟩:=J3i S1.own
 have ng:w1.cell? ⟨g,off,none⟩=some (.string idB):=(hg.more [_,_]) _ L S1;have hup:=hid (J5m S1 idB (by decide))
 have eu:J0x idB=idB:=by kernel_rfl
 rw[eu] at hup;clear hg hS S1 eu;unfold J0o;go_enter Tryz.func41,Tryz.ntmps41;go_upto_region 1 with fail;generalize hw2:(w.alloc _).alloc _=w2;obtain rfl:w1=w2:=hw1.trans hw2;try rw[hb0]
 clear hw1 hw2 hb0;go_wp2_with fail
 all_goals
  refine hup.out.mono ?_;rintro e w3 ⟨rfl,S2⟩;clear hup ng a0 a1 a2 a3 z0 z1 z2 z3 z4 z5 fz hlt;obtain⟨a0,a1,a2,a3,z0,z1,z2,z3,z4,z5,fz,hlt⟩:=J3i S2.own
  have hi:=hid (J9y S2 id);unfold J3 at hi;clear S2;go_wp2_with fail;refine hi.out.mono ?_;rintro e w4 ⟨rfl,S3⟩;clear hi a0 a1 a2 a3 z0 z1 z2 z3 z4 z5 fz hlt;obtain⟨a0,a1,a2,a3,z0,z1,z2,z3,z4,z5,fz,hlt⟩:=J3i S3.own
  have S5:=hid (J2r S3 3 ByteArray.empty id (.slice none 0 0));clear S3;go_wp2_with fail;refine bodyPost_ret (v:=J3 3 ByteArray.empty id (.slice none 0 0)) (by simp[results,Tryz.results41,go_sem,J3, *]<;>rfl) rfl ?_
  exact⟨rfl,S5.out⟩
theorem Jmo (hS:J1 w0 [] w (L++r)) (hg:J67 w0 r g off J9u)
 (ht:∀(w':World) (y:Hp),J1 w0 [] w' (L++(y++r))->Calls Tryz.prog 77 #[J0o hb cb id (.slice (some ⟨g,off,none⟩) 2 2),.slice (some ⟨g,off+1,none⟩) 1 1] w' (J3w w0 (y++r) Q)):
  Calls Tryz.prog 41 #[J0o hb cb id (.slice (some ⟨g,off,none⟩) 2 2)] w (J3w w0 r Q):=by
  have S1:=hS.ask (J09 hb cb id (.slice (some ⟨g,off,none⟩) 2 2));obtain⟨w1,hw1⟩:∃w1,w1=(w.alloc (J09 hb cb id (.slice (some ⟨g,off,none⟩) 2 2))).alloc J5:=⟨_,rfl⟩
  rw[<-hw1] at S1;generalize hb0:w.heap.size=b0 at S1;obtain⟨a0,a1,a2,a3,z0,z1,z2,z3,z4,z5,fz,hlt⟩:=J3i S1.own
  have ng:w1.cell? ⟨g,off,none⟩=some (.string J9u):=(hg.more [_,_]) _ L S1;have hup:=hid (J5m S1 J9u (by decide))
  have eu:J0x J9u=J9u:=by kernel_rfl
  rw[eu] at hup;replace ht:=hid ht;clear hg hS S1 eu;unfold J0o at ht⊢;go_enter Tryz.func41,Tryz.ntmps41;go_upto_region 1 with fail;generalize hw2:(w.alloc _).alloc _=w2;obtain rfl:w1=w2:=hw1.trans hw2;try rw[hb0]
  clear hw1 hw2 hb0;go_wp2_with fail;refine hup.out.mono ?_;rintro e w3 ⟨rfl,S2⟩;clear hup ng a0 a1 a2 a3 z0 z1 z2 z3 z4 z5 fz hlt;obtain⟨a0,a1,a2,a3,z0,z1,z2,z3,z4,z5,fz,hlt⟩:=J3i S2.own
  have hi:=hid (ht.out w3 [_,_] S2);clear S2 ht;go_wp2_with fail;refine hi.out.mono ?_;rintro e w4 ⟨kd,tx,nn,la,ln,lc,L2,rfl,hQ,S3⟩;clear hi a0 a1 a2 a3 z0 z1 z2 z3 z4 z5 fz hlt;obtain⟨a0,a1,a2,a3,z0,z1,z2,z3,z4,z5,fz,hlt⟩:=J3i S3.own
  have S5:=hid (J2r S3 kd tx nn (.slice la ln lc));replace hQ:=hid hQ;clear S3;unfold J3;go_wp2_with fail;refine bodyPost_ret (v:=J3 kd tx nn (.slice la ln lc)) (by simp[results,Tryz.results41,go_sem,J3, *]<;>rfl) rfl ?_
  exact⟨kd,tx,nn,la,ln,lc,L2,rfl,hQ.out,S5.out⟩
def J6w (w0:World) (r:Hp) (Q:Int->ByteArray->Int->Value->Hp->Prop) (en:Bool) (e:Ending) (w':World):Prop:=∃kd tx nn a n c L,e= .returned (.tuple #[J3 kd tx nn (.slice a n c),.bool en])/\Q kd tx nn (.slice a n c) L/\J1 w0 [] w' (L++r)
abbrev Jm4:ByteArray:=⟨#[72,69,76,76,79]⟩
abbrev Jkh:ByteArray:=⟨#[67,76,73,69,78,84]⟩
abbrev Jnb:ByteArray:=⟨#[81,85,73,84]⟩
theorem Jlo (hS:J1 w0 [] w (L++r))
 (ht:∀(w':World) (y:Hp),J1 w0 [] w' (L++(y++r))->Calls Tryz.prog 40 #[J0o hb cb id args] w' (J3w w0 (y++r) Q)):
  Calls Tryz.prog 21 #[J0o hb cb id args,.string Jm4] w (J6w w0 r Q false):=by
  have S1:=hS.ask (J09 hb cb id args);obtain⟨w1,hw1⟩:∃w1,w1=(w.alloc (J09 hb cb id args)).alloc J5:=⟨_,rfl⟩
  rw[<-hw1] at S1;generalize hb0:w.heap.size=b0 at S1;obtain⟨a0,a1,a2,a3,z0,z1,z2,z3,z4,z5,fz,hlt⟩:=J3i S1.own
  have hi:=hid (ht w1 [_,_] S1);clear ht hS S1;unfold J0o at hi⊢;go_enter Tryz.func21,Tryz.ntmps21;go_upto_region 1 with fail;generalize hw2:(w.alloc _).alloc _=w2;obtain rfl:w1=w2:=hw1.trans hw2;try rw[hb0]
  clear hw1 hw2 hb0;go_wp2_with fail;refine hi.out.mono ?_;rintro e w4 ⟨kd,tx,nn,la,ln,lc,L2,rfl,hQ,S3⟩;clear hi a0 a1 a2 a3 z0 z1 z2 z3 z4 z5 fz hlt;obtain⟨a0,a1,a2,a3,z0,z1,z2,z3,z4,z5,fz,hlt⟩:=J3i S3.own
  have S5:=hid (J2r S3 kd tx nn (.slice la ln lc));replace hQ:=hid hQ;clear S3;unfold J3;go_wp2_with fail;refine bodyPost_ret (v:=.tuple #[J3 kd tx nn (.slice la ln lc),.bool false]) (by simp[results,Tryz.results21,go_sem,J3, *]<;>rfl) rfl ?_
  exact⟨kd,tx,nn,la,ln,lc,L2,rfl,hQ.out,S5.out⟩
theorem Jmf (hS:J1 w0 [] w (L++r))
 (ht:∀(w':World) (y:Hp),J1 w0 [] w' (L++(y++r))->Calls Tryz.prog 41 #[J0o hb cb id args] w' (J3w w0 (y++r) Q)):
  Calls Tryz.prog 21 #[J0o hb cb id args,.string Jkh] w (J6w w0 r Q false):=by
  have S1:=hS.ask (J09 hb cb id args);obtain⟨w1,hw1⟩:∃w1,w1=(w.alloc (J09 hb cb id args)).alloc J5:=⟨_,rfl⟩
  rw[<-hw1] at S1;generalize hb0:w.heap.size=b0 at S1;obtain⟨a0,a1,a2,a3,z0,z1,z2,z3,z4,z5,fz,hlt⟩:=J3i S1.own
  have hi:=hid (ht w1 [_,_] S1);clear ht hS S1;unfold J0o at hi⊢;go_enter Tryz.func21,Tryz.ntmps21;go_upto_region 1 with fail;generalize hw2:(w.alloc _).alloc _=w2;obtain rfl:w1=w2:=hw1.trans hw2;try rw[hb0]
  clear hw1 hw2 hb0;go_wp2_with fail;refine hi.out.mono ?_;rintro e w4 ⟨kd,tx,nn,la,ln,lc,L2,rfl,hQ,S3⟩;clear hi a0 a1 a2 a3 z0 z1 z2 z3 z4 z5 fz hlt;obtain⟨a0,a1,a2,a3,z0,z1,z2,z3,z4,z5,fz,hlt⟩:=J3i S3.own
  have S5:=hid (J2r S3 kd tx nn (.slice la ln lc));replace hQ:=hid hQ;clear S3;unfold J3;go_wp2_with fail;refine bodyPost_ret (v:=.tuple #[J3 kd tx nn (.slice la ln lc),.bool false]) (by simp[results,Tryz.results21,go_sem,J3, *]<;>rfl) rfl ?_
  exact⟨kd,tx,nn,la,ln,lc,L2,rfl,hQ.out,S5.out⟩
theorem Jme (hS:J1 w0 [] w (L++r)):
 Calls Tryz.prog 21 #[J0o hb cb id args,.string Jnb] w (J6w w0 r (fun _ tx _ _ L'=>tx=okB/\L'=L) true):=by
 have S1:=hS.ask (J09 hb cb id args);obtain⟨w1,hw1⟩:∃w1,w1=(w.alloc (J09 hb cb id args)).alloc J5:=⟨_,rfl⟩
 rw[<-hw1] at S1;generalize hb0:w.heap.size=b0 at S1;have hi:=hid (Jcc S1);unfold J3 at hi;clear hS S1;unfold J0o;go_enter Tryz.func21,Tryz.ntmps21;go_upto_region 1 with fail;generalize hw2:(w.alloc _).alloc _=w2;obtain rfl:w1=w2:=hw1.trans hw2;try rw[hb0]
 clear hw1 hw2 hb0;go_wp2_with fail;refine hi.out.mono ?_;rintro e w4 ⟨rfl,S3⟩;clear hi;obtain⟨a0,a1,a2,a3,z0,z1,z2,z3,z4,z5,fz,hlt⟩:=J3i S3.own
 have S5:=hid (J2r S3 1 okB 0 (.slice none 0 0));clear S3;go_wp2_with fail;refine bodyPost_ret (v:=.tuple #[J3 1 okB 0 (.slice none 0 0),.bool true]) (by simp[results,Tryz.results21,go_sem,J3, *]<;>rfl) rfl ?_
 exact⟨1,okB,0,none,0,0,L,rfl,⟨rfl,rfl⟩,S5.out⟩
theorem Jl7 (hS:J1 w0 [] w (s.hp++r)) (hO:s.Ok K S) (hc:c∈s.hs) (hp2:c.proto=2) (hg:J67 w0 r g off onB):
 Calls Tryz.prog 77 #[J0o s.hb c.b c.id args,.slice (some ⟨g,off,none⟩) 1 1] w (Ji w0 (s.hp++r) (J3 2 (Jo 132) 0 (.slice none 0 0))):=by
 have S1:=hS.ask (J09 s.hb c.b c.id args);obtain⟨w1,hw1⟩:∃w1,w1=(w.alloc (J09 s.hb c.b c.id args)).alloc J5:=⟨_,rfl⟩
 rw[<-hw1] at S1;generalize hb0:w.heap.size=b0 at S1;have ng:w1.cell? ⟨g,off,none⟩=some (.string onB):=(hg.more [_,_]) _ _ S1;have hpa:=hid (Jdo S1 ng);obtain⟨cb,hcb⟩:∃cb,cb=c.b:=⟨_,rfl⟩
 rw[<-hcb] at S1 hw1 hpa⊢;replace hO:=hid hO;replace hc:=hid hc;replace hcb:=hid hcb;replace hp2:=hid hp2;clear hg hS ng S1;unfold J0o;unfold J0g at hpa;go_enter Tryz.func77,Tryz.ntmps77;go_upto_region 1 with fail;generalize hw2:(w.alloc _).alloc _=w2;obtain rfl:w1=w2:=hw1.trans hw2;try rw[hb0]
 clear hw1 hw2 hb0;go_wp2_with fail;refine hpa.out.mono ?_;rintro e w3 ⟨rfl,S2⟩;clear hpa;have S3:=S2.alloc (Kr true);have hC:=huC (r:=_) (S3.own.tail)
 have k0:(w3.alloc (.cells #[.bool true,.bool false,.bool false,.bool false,.bool false,.int .i64 0,.slice none 0 0] 86)).cell? ⟨cb,0,none⟩=some (.int .i64 2):=by
  have:=J0 (hC.hc c hc.out) 0
  rw[hcb.out];rw[<-hp2.out];exact this
 have a1:(w3.alloc (.cells #[.bool true,.bool false,.bool false,.bool false,.bool false,.int .i64 0,.slice none 0 0] 86)).cell? ⟨b0,1,none⟩=some (ptr cb):=(J3i (L:=(w3.heap.size,_)::s.hp) S3.own).a1;have hd:=hid (Jf3 S3);unfold J3 at hd;obtain⟨tx,htx⟩:∃tx,tx=Jo 132:=⟨_,rfl⟩
 rw[<-htx] at hd;replace htx:=hid htx;clear S2 hC S3;go_wp2_with fail;refine hd.out.mono ?_;rintro e w4 ⟨rfl,S4⟩;have S5:=S4.less (List.sublist_cons_self _ _);obtain⟨a0,a1',a2,a3,z0,z1,z2,z3,z4,z5,fz,hlt⟩:=J3i S5.own
 have S6:=hid (J2r S5 2 tx 0 (.slice none 0 0));clear hd S4 S5 k0 a1;go_wp2_with fail;refine bodyPost_ret (v:=J3 2 tx 0 (.slice none 0 0)) (by simp[results,Tryz.results77,go_sem,J3, *]<;>rfl) rfl ?_
 exact⟨by rw[htx.out],S6.out⟩
def Jlx (s:Hu) (ts:List Tc) (kd:Int) (tx:ByteArray) (nn:Int) (lv:Value) (L:Hp):Prop:=kd=1/\tx=okB/\∃pl,J5o pl s.pb/\L=({s with ts:=ts,pl:=pl}:Hu).hp
theorem Jl6 (hS:J1 w0 [] w (s.hp++r)) (hO:s.Ok K S) (hc:c∈s.hs) (hp3:c.proto=3) (ht:s.ts=a++t::b) (hid':t.id=c.id) (hoff:t.on=false) (hg:J67 w0 r g off onB):
 Calls Tryz.prog 77 #[J0o s.hb c.b c.id args,.slice (some ⟨g,off,none⟩) 1 1] w (J3w w0 r (Jlx s (a++{t with on:=true}::b))):=by
 have S1:=hS.ask (J09 s.hb c.b c.id args);obtain⟨w1,hw1⟩:∃w1,w1=(w.alloc (J09 s.hb c.b c.id args)).alloc J5:=⟨_,rfl⟩
 rw[<-hw1] at S1;generalize hb0:w.heap.size=b0 at S1;have ng:w1.cell? ⟨g,off,none⟩=some (.string onB):=(hg.more [_,_]) _ _ S1;have hpa:=hid (Jdo S1 ng);obtain⟨cb,hcb⟩:∃cb,cb=c.b:=⟨_,rfl⟩
 obtain⟨hb,hhb⟩:∃hb,hb=s.hb:=⟨_,rfl⟩
 obtain⟨tb,htb⟩:∃tb,tb=s.tb:=⟨_,rfl⟩
 obtain⟨id,hii⟩:∃id,id=c.id:=⟨_,rfl⟩
 rw[<-hcb,<-hhb,<-hii] at S1 hw1 hpa⊢;replace hO:=hid hO;replace hc:=hid hc;replace hcb:=hid hcb;replace hhb:=hid hhb;replace htb:=hid htb;replace hii:=hid hii;replace hp3:=hid hp3;replace ht:=hid ht;replace hid':=hid hid';replace hoff:=hid hoff;clear hg hS ng S1;unfold J0o;unfold J0g at hpa;go_enter Tryz.func77,Tryz.ntmps77;go_upto_region 1 with fail;generalize hw2:(w.alloc _).alloc _=w2;obtain rfl:w1=w2:=hw1.trans hw2;try rw[hb0]
 clear hw1 hw2 hb0;go_wp2_with fail;refine hpa.out.mono ?_;rintro e w3 ⟨rfl,S2⟩;clear hpa;have S3:=S2.alloc (Kr true);obtain⟨w4,hw4⟩:∃w4,w4=w3.alloc (Kr true):=⟨_,rfl⟩
 rw[<-hw4] at S3;generalize hb5:w3.heap.size=b5 at S3;obtain⟨R,hR⟩:∃R:Hp,R=s.hp++((b5,Kr true)::(b0+1,J5)::(b0,J09 hb cb id args)::r):=⟨_,rfl⟩
 have S4:J1 w0 [] w4 R:=hR▸S3.permR List.perm_middle.symm;have hown:∀w',J1 w0 [] w' R->Own w' (s.hp++((b5,Kr true)::(b0+1,J5)::(b0,J09 hb cb id args)::r)):=fun w' h=>hR▸h.own
 have k0:w4.cell? ⟨cb,0,none⟩=some (.int .i64 3):=by
  have:=J0 ((huC (hown _ S4)).hc c hc.out) 0
  rw[hcb.out,<-hp3.out];exact this
 have x0:∀p:InW w0 [] R,p.w.cell? ⟨b0,0,none⟩=some (ptr hb):=fun p=>J0 (hown _ p.h).right.tail.tail.head 0
 have x1:∀p:InW w0 [] R,p.w.cell? ⟨b0,1,none⟩=some (ptr cb):=fun p=>J0 (hown _ p.h).right.tail.tail.head 1
 have x2:∀p:InW w0 [] R,p.w.cell? ⟨b0,2,none⟩=some (.int .i64 id):=fun p=>J0 (hown _ p.h).right.tail.tail.head 2
 have y1:∀p:InW w0 [] R,p.w.cell? ⟨hb,1,none⟩=some (ptr tb):=fun p=>by rw[hhb.out,htb.out];exact(huC (hown _ p.h)).h1
 have m0:∀p:InW w0 [] R,p.w.cell? ⟨b5,0,none⟩=some (.bool true):=fun p=>J0 (hown _ p.h).right.head 0
 have m1:∀p:InW w0 [] R,p.w.cell? ⟨b5,1,none⟩=some (.bool false):=fun p=>J0 (hown _ p.h).right.head 1
 have m2:∀p:InW w0 [] R,p.w.cell? ⟨b5,2,none⟩=some (.bool false):=fun p=>J0 (hown _ p.h).right.head 2
 have m3:∀p:InW w0 [] R,p.w.cell? ⟨b5,3,none⟩=some (.bool false):=fun p=>J0 (hown _ p.h).right.head 3
 have m4:∀p:InW w0 [] R,p.w.cell? ⟨b5,4,none⟩=some (.bool false):=fun p=>J0 (hown _ p.h).right.head 4
 have m5:∀p:InW w0 [] R,p.w.cell? ⟨b5,5,none⟩=some (.int .i64 0):=fun p=>J0 (hown _ p.h).right.head 5
 have m6:∀p:InW w0 [] R,p.w.cell? ⟨b5,6,none⟩=some (.slice none 0 0):=fun p=>J0 (hown _ p.h).right.head 6
 have a1:w4.cell? ⟨b0,1,none⟩=some (ptr cb):=x1 ⟨w4,S4⟩;have n0:w4.cell? ⟨b5,0,none⟩=some (.bool true):=m0 ⟨w4,S4⟩;have n5:w4.cell? ⟨b5,5,none⟩=some (.int .i64 0):=m5 ⟨w4,S4⟩;replace S4:=hid S4;replace hown:=hid hown;replace hR:=hid hR;clear S2 S3;go_upto_region 2 with fail;generalize hw5:w3.alloc _=w5;obtain rfl:w4=w5:=hw4.trans hw5;try rw[hb5]
 clear hw4 hw5 hb5;go_wp2_with fail;refine Jx 8 S4.out (by kernel_rfl) (by kernel_rfl) (fun hne=>?_)
 simp only[List.take_succ_cons,List.take_zero,List.drop_succ_cons,List.drop_zero];repeat (go_big_quiet_step (fail))
 refine J17 fun w6 S5=>?_
 rw[hR.out] at S5;have hset:=hid (Jl8 S5 hO.out ht.out hoff.out);rw[hid'.out,<-hii.out,<-htb.out] at hset;unfold J0g at hset;clear S4 S5 x0 x1 x2 y1 m0 m1 m2 m3 m4 m5 m6 a1 n0 n5 k0 hne hown;go_wp2_with fail;refine hset.out.mono ?_;rintro e w7 ⟨rfl,pl,hP,S6⟩;clear hset;have hd:=hid (Jjb S6);unfold J3 at hd;replace hP:=hid hP;clear S6;go_wp2_with fail;refine hd.out.mono ?_;rintro e w8 ⟨rfl,S7⟩;have S8:=(S7.permR List.perm_middle).less (List.sublist_cons_self _ _);obtain⟨a0,a1',a2,a3,z0,z1,z2,z3,z4,z5,fz,hlt⟩:=J3i S8.own
 have S9:=hid (J2r S8 1 okB 0 (.slice none 0 0));clear hd S7 S8;go_wp2_with fail;refine bodyPost_ret (v:=J3 1 okB 0 (.slice none 0 0)) (by simp[results,Tryz.results77,go_sem,J3, *]<;>rfl) rfl ?_
 have S10:=S9.out;rw[hii.out,<-hid'.out] at S10;refine⟨1,okB,0,none,0,0,_,rfl,⟨rfl,rfl,pl,hP.out,rfl⟩,S10⟩
theorem Ji.perm {l2:Hp} {v:Value} {e:Ending} {w':World} (h:Ji w0 l v e w') (p:l.Perm l2):Ji w0 l2 v e w':=⟨h.1,h.2.permR p⟩
theorem J1.setHc (h:J1 w0 l w ((c.b,J2o c)::r)) (n:Int):J1 w0 l (w.setCell ⟨c.b,0,none⟩ (.int .i64 n)) ((c.b,J2o {c with proto:=n})::r):=h.set 0 (.int .i64 n)
def Jlv (s:Hu) (hs:List Hc) (kd:Int) (tx:ByteArray) (nn:Int) (lv:Value) (L:Hp):Prop:=kd=12/\L=({s with hs:=hs}:Hu).hp
abbrev Jjs:ByteArray:=⟨#[51]⟩
theorem Jno (hS:J1 w0 [] w (s.hp++r)) (hO:s.Ok K S) {a b:List Hc} (hc:s.hs=a++c::b) {cap:Nat} (hg:J67 w0 r g off Jjs):
 Calls Tryz.prog 40 #[J0o s.hb c.b c.id (.slice (some ⟨g,off,none⟩) 1 cap)] w (J3w w0 r (Jlv s (a++{c with proto:=3}::b))):=by
 have hmem:c∈s.hs:=by rw[hc];simp
 obtain⟨t,ht,hti⟩:=Jjq hO hmem
 have S1:=hS.ask (J09 s.hb c.b c.id (.slice (some ⟨g,off,none⟩) 1 cap));obtain⟨w1,hw1⟩:∃w1,w1=(w.alloc (J09 s.hb c.b c.id (.slice (some ⟨g,off,none⟩) 1 cap))).alloc J5:=⟨_,rfl⟩
 rw[<-hw1] at S1;generalize hb0:w.heap.size=b0 at S1;obtain⟨a0,a1,a2,a3,z0,z1,z2,z3,z4,z5,fz,hlt⟩:=J3i S1.own
 have hp:w1.cell? ⟨c.b,0,none⟩=some (.int .i64 c.proto):=J0 ((huC S1.own).hc c hmem) 0;have S2:=S1.alloc (.cells #[.string ⟨#[50]⟩,.string ⟨#[51]⟩] 9);obtain⟨w2,hw2⟩:∃w2,w2=w1.alloc (.cells #[.string ⟨#[50]⟩,.string ⟨#[51]⟩] 9):=⟨_,rfl⟩
 rw[<-hw2] at S2;have n3:w2.cell? ⟨b0,3,none⟩=some (.slice (some ⟨g,off,none⟩) 1 cap):=(J3i (L:=(w1.heap.size,_)::s.hp) S2.own).a3;have ng:w2.cell? ⟨g,off,none⟩=some (.string Jjs):=(hg.more [_,_]) _ ((w1.heap.size,_)::s.hp) S2;have hix:=hid (Jkr (J0 S2.own.head 0) (J0 S2.own.head 1));replace S2:=S2.less (List.sublist_cons_self _ _);obtain⟨cb,hcb⟩:∃cb,cb=c.b:=⟨_,rfl⟩
 obtain⟨hb,hhb⟩:∃hb,hb=s.hb:=⟨_,rfl⟩
 obtain⟨tb,htb⟩:∃tb,tb=s.tb:=⟨_,rfl⟩
 obtain⟨id,hii⟩:∃id,id=c.id:=⟨_,rfl⟩
 rw[<-hcb,<-hhb,<-hii] at S1 S2 hw1⊢;rw[<-hcb] at hp a1;rw[<-hhb] at a0;rw[<-hii] at a2;obtain⟨R,hR⟩:∃R:Hp,R=s.hp++((b0+1,J5)::(b0,J09 hb cb id (.slice (some ⟨g,off,none⟩) 1 cap))::r):=⟨_,rfl⟩
 have S3:J1 w0 [] w2 R:=hR▸S2
 have hkeep:Hid (∀w':World,Hid (InX w0 R w')->w'.cell? ⟨b0,0,none⟩=some (ptr hb)/\w'.cell? ⟨b0,2,none⟩=some (.int .i64 id)/\w'.cell? ⟨hb,1,none⟩=some (ptr tb)/\Hid (InX w0 R w')):=hid fun w' hx=>by
  obtain⟨x,hw⟩:=hx.out
  have ho:=hw.own.right;rw[hR] at ho;have hk:=J3i ho;exact⟨hk.a0,hk.a2,by rw[hhb,htb];exact(huC ho).h1,hx⟩
 have hmode:∀(w':World) (x:Hp),Hid (J1 w0 [] w' (x++R)->_):=fun w' x=>hid fun hw=>(Jhe (t:=t) (hw.permR (l2:=s.hp++(x++((b0+1,J5)::(b0,J09 hb cb id (.slice (some ⟨g,off,none⟩) 1 cap))::r))) (J2 fun f=>by rw[hR];simp only[SC];omega)) hO ht).mono fun _ _ hq=>hq.perm (l2:=x++R) (J2 fun f=>by rw[hR];simp only[SC];omega)
 rw[hti,<-hii,<-htb] at hmode;unfold J0g at hmode;have hs1:Hid (J1 w0 [] w2.drew ([]++R)):=hid S3.drew;have hs2:Hid (∀o:Obj,J1 w0 [] (w2.alloc o).drew ([(w2.heap.size,o)]++R)):=hid fun o=>(S3.alloc o).drew
 have hx1:Hid (InX w0 R w2.drew):=hid ⟨[],S3.drew⟩;have hx0:Hid (InX w0 R w2):=hid ⟨[],S3⟩;generalize c.proto=pr at hp;replace hc:=hid hc;replace hO:=hid hO;replace hR:=hid hR;replace hcb:=hid hcb;replace hhb:=hid hhb;replace htb:=hid htb;replace hii:=hid hii;replace hti:=hid hti;replace hmem:=hid hmem;replace ht:=hid ht;clear hg hS S1 S2 S3;unfold J0o;go_enter Tryz.func40,Tryz.ntmps40;go_upto_region 1 with fail;generalize hw3:(w.alloc _).alloc _=w3;obtain rfl:w1=w3:=hw1.trans hw3;try rw[hb0]
 clear hw1 hw3 hb0;rw[hw2] at n3 ng hix;replace hw2:=hid hw2;go_wp2_with fail;rw[<-hw2.out] at hix⊢;refine hix.out.mono ?_;rintro e w4 ⟨rfl,rfl⟩;clear hix n3 ng a0 a1 a2 a3 z0 z1 z2 z3 z4 z5 fz hlt hp hw2;go_wp2_with fail;go_cut [4,5] (fun s4 s5 wc=>∃nb,s4= .pointer (some ⟨nb,0,none⟩)/\s5= .bool true/\Hid (J1 w0 [] wc ((nb,Kr t.on)::R)))
 case first=>
  obtain⟨q0,q1,q2,_⟩:=hkeep.out _ hx1
  have hal:∀o,_:=fun o=>hkeep.out (w4.alloc o).drew (hid ⟨_,hs2.out o⟩)
  have Q0:=fun o=>(hal o).1
  have Q1:=fun o=>(hal o).2.1
  have Q2:=fun o=>(hal o).2.2.1
  clear hal;go_region_with (first|(go_at_call 74;refine((hmode _ _).out hs1.out).mono ?_;rintro e w3 ⟨rfl,S4⟩;have hend:Hid (J1 w0 [] (w3.alloc (Kr t.on)) ((w3.heap.size,Kr t.on)::R)):=hid (S4.alloc _);clear S4)|(go_at_call 74;refine((hmode _ _).out (hs2.out _)).mono ?_;rintro e w3 ⟨rfl,S4⟩;obtain⟨z0,z1,z2,z3,z4,z5,z6,fz,zl⟩:=Jff S4.own;have hend:=hid (S4.setMd (.bool t.on) (.bool false) (.bool false) (.bool false) (.bool false) (.int .i64 0) (.slice none 0 0));clear S4))
  all_goals (go_wp2_with fail;go_meet;exact⟨_,rfl,rfl,hend⟩)
 case rest=>
  obtain⟨nb,rfl,rfl,S5⟩:=hcut
  rename_i wc
  clear hs1 hs2 hx1 hx0 hmode hkeep
  have S6:J1 w0 [] wc (s.hp++((nb,Kr t.on)::(b0+1,J5)::(b0,J09 hb cb id (.slice (some ⟨g,off,none⟩) 1 cap))::r)):=S5.out.permR (J2 fun f=>by
   rw[hR.out];simp only[SC];omega)
  have a1:wc.cell? ⟨b0,1,none⟩=some (ptr cb):=J0 S6.own.right.tail.tail.head 1;have S7:=S6.hcOut hc.out;have kp:wc.cell? ⟨cb,0,none⟩=some (.int .i64 c.proto):=by rw[hcb.out];exact J0 S7.own.head 0
  have fz:∀j,wc.frozen? ⟨cb,j,none⟩=false:=fun j=>by rw[hcb.out];exact J6 S7.own.head j
  have hlt:cb<wc.heap.size:=by rw[hcb.out];exact Jc S7.own.head
  have S9:=J1.hcBack (s:=s) (c:={c with proto:=3}) (S7.setHc 3)
  obtain⟨H2,hH2⟩:∃H2:Hp,H2=({s with hs:=a++{c with proto:=3}::b}:Hu).hp:=⟨_,rfl⟩
  rw[<-hH2,<-hcb.out] at S9;obtain⟨R2,hR2⟩:∃R2:Hp,R2=H2++((nb,Kr t.on)::(b0+1,J5)::(b0,J09 hb cb id (.slice (some ⟨g,off,none⟩) 1 cap))::r):=⟨_,rfl⟩
  have S10:J1 w0 [] (wc.setCell ⟨cb,0,none⟩ (.int .i64 3)) R2:=by rw[hR2];exact S9
  have hown:∀w',J1 w0 [] w' R2->Own w' (H2++((nb,Kr t.on)::(b0+1,J5)::(b0,J09 hb cb id (.slice (some ⟨g,off,none⟩) 1 cap))::r)):=fun w' h=>hR2▸h.own
  have x2:∀p:InW w0 [] R2,p.w.cell? ⟨b0,2,none⟩=some (.int .i64 id):=fun p=>J0 (hown _ p.h).right.tail.tail.head 2
  replace S10:=hid S10;replace hR2:=hid hR2;replace hH2:=hid hH2;clear S5 S6 S7 S9 hR hown;go_wp2_with fail;refine Jx 9 S10.out (by kernel_rfl) (by kernel_rfl) (fun hne=>?_)
  simp only[List.take_succ_cons,List.take_zero,List.drop_succ_cons,List.drop_zero];repeat (go_big_quiet_step ((first|(go_at_call 23;refine Calls.inw (Jh8 (InW.h _) _))|(go_at_call 76;refine Calls.inw (J9y (InW.h _) _)))))
  refine J17 fun w6 S11=>?_
  rw[hR2.out] at S11;have S12:=(S11.permR List.perm_middle).less (List.sublist_cons_self _ _);have S13:=S12.alloc (.cells #[.int .i64 4,.string ⟨#[115,101,114,118,101,114]⟩,.int .i64 0,.float .f64 0,.bool false,.slice none 0 0,.int .i64 4,.string ⟨#[110,101,97,114,104,97,110,100]⟩,.int .i64 0,.float .f64 0,.bool false,.slice none 0 0,.int .i64 4,.string ⟨#[112,114,111,116,111]⟩,.int .i64 0,.float .f64 0,.bool false,.slice none 0 0,.int .i64 3,.string ByteArray.empty,.int .i64 3,.float .f64 0,.bool false,.slice none 0 0,.int .i64 4,.string ⟨#[105,100]⟩,.int .i64 0,.float .f64 0,.bool false,.slice none 0 0,.int .i64 3,.string ByteArray.empty,.int .i64 id,.float .f64 0,.bool false,.slice none 0 0] 29);obtain⟨b0',b1',b2',b3',z0,z1,z2,z3,z4,z5,fz',hlt'⟩:=J3i (L:=(w6.heap.size,_)::H2) S13.own
  have S14:=hid ((J2r (L:=(w6.heap.size,_)::H2) S13 12 ⟨#[]⟩ 0 (.slice (some ⟨w6.heap.size,0,none⟩) 6 6)).less (List.sublist_cons_self _ _));clear S10 S11 S12 S13 x2 hne a1 kp fz hlt b0' b1' b2' b3';unfold J3;go_wp2_with fail;refine bodyPost_ret (v:=J3 12 ⟨#[]⟩ 0 (.slice (some ⟨w6.heap.size,0,none⟩) 6 6)) (by simp[results,Tryz.results40,go_sem,J3, *]<;>rfl) rfl ?_
  have e2:H2=({s with hs:=a++{id:=id,b:=cb,proto:=3}::b}:Hu).hp:=by rw[hH2.out,hii.out,hcb.out]
  exact⟨12,⟨#[]⟩,0,_,6,6,H2,rfl,⟨rfl,e2⟩,S14.out⟩
end Go.Proofs.YtefjbegnlolgbaaGreatDoor
