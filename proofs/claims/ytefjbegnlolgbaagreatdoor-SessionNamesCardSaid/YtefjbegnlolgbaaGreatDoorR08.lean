/-
nearhandlaw21: SessionNames: a few commands, and what notices are as values.
-/
import Derived.Test.YtefjbegnlolgbaaGreatDoorR04
import Derived.Test.YtefjbegnlolgbaaGreatDoorR07
set_option linter.unusedVariables false
set_option linter.unusedSimpArgs false
set_option maxRecDepth 100000
set_option maxHeartbeats 8000000
namespace Go.Proofs.YtefjbegnlolgbaaGreatDoor
open Go Go.RowKit
theorem Jqe:Jo 132=⟨#[69,82,82,32,111,112,116,105,111,110,115,32,100,111,32,110,111,116,32,103,111,32,116,111,103,101,116,104,101,114]⟩:=by kernel_rfl
theorem Jos {w0 w:World} {r:Hp} (hS:J1 w0 [] w r) (hG:J1q w0):
 Calls Tryz.prog 3 #[] w (fun e w'=>e= .returned (.bool true)/\J1 w0 [] w' r):=by
 have halive:=hid (Jou hS hG);clear hS hG;go_enter Tryz.func3,Tryz.ntmps3;go_wp2_with fail;refine halive.out.mono ?_;rintro e w1 ⟨rfl,S1⟩;have hnew:=hid (Jmu S1);clear halive S1;go_wp2_with fail;refine hnew.out.mono ?_;rintro e w2 ⟨s,rfl,hO,hh,ht,S2⟩;obtain⟨hb,hhb⟩:∃hb,hb=s.hb:=⟨_,rfl⟩
 have hj:=Jms S2 hO (id:=1) (by omega) (by rw[hh];simp)
 rw[<-hhb] at hj⊢;replace hj:=hid hj;replace hh:=hid hh;replace ht:=hid ht;replace hO:=hid hO;replace hhb:=hid hhb;clear hnew S2;go_wp2_with fail;refine hj.out.mono ?_;rintro e w3 ⟨rfl,s3,tb1,cb1,e3,hh3,ht3,hO3,S3⟩;rw[hh.out,List.nil_append] at hh3;rw[<-hhb.out] at e3;have H3:Kd w0 w3 r hb s3 .none (J4w 10000):=⟨e3,hO3,S3⟩;have hd:=hid (Jp2 H3 (c:=⟨1,cb1,2⟩) (by rw[hh3];simp))
 replace hh3:=hid hh3;clear hj S3 hO3 e3 ht3 hO hh ht hhb H3;go_wp2_with fail;refine hd.out.mono ?_;rintro e w4 ⟨kd,tx,nn,a,n,c,na,nn',nc,en,s4,K4,S4,rfl,rfl,⟨⟨hh4,ht4⟩,rfl,rfl⟩,H4⟩;rw[hh3.out] at hh4;clear hd hh3 ht4;unfold J3;go_upto_region 6 with fail;have H5:=H4.val (J1b kd J37 nn (.slice a n c));generalize hw5:w4.alloc _=w5;replace H5:Kd w0 w5 _ hb s4 .none (J4w 10000):=hw5▸H5;clear hw5 H4;generalize w4.heap.size=ab at H5⊢;have hd:=hid (Jq7 H5 (c:=⟨1,cb1,2⟩) (by rw[hh4];simp) rfl)
 replace hh4:=hid hh4;clear H5;go_wp2_with fail;refine hd.out.mono ?_;rintro e w6 ⟨kd6,tx6,nn6,a6,n6,c6,na6,nn6',nc6,en6,s6,K6,S6,rfl,rfl,⟨⟨hh6,ht6⟩,rfl,rfl⟩,H6⟩;rw[hh4.out] at hh6;clear hd hh4 ht6;unfold J3;go_upto_region 7 with fail;have H7:=H6.val (J1b kd6 (Jo 132) nn6 (.slice a6 n6 c6));generalize hw7:w6.alloc _=w7;replace H7:Kd w0 w7 _ hb s6 .none (J4w 10000):=hw7▸H7;clear hw7 H6;generalize w6.heap.size=bb at H7⊢;have hd:=hid (Jps H7 (c:=⟨1,cb1,2⟩) (by rw[hh6];simp))
 replace hh6:=hid hh6;clear H7;go_wp2_with fail;refine hd.out.mono ?_;rintro e w8 ⟨kd8,tx8,nn8,a8,n8,c8,na8,nn8',nc8,en8,s8,K8,S8,rfl,⟨rfl,rfl⟩,⟨⟨hh8,ht8⟩,rfl,rfl⟩,H8⟩;rw[hh6.out] at hh8;clear hd hh6 ht8;unfold J3;go_upto_region 8 with fail;have H9:=H8.val (J1b kd8 okB nn8 (.slice a8 n8 c8));generalize hw9:w8.alloc _=w9;replace H9:Kd w0 w9 _ hb s8 .none (J4w 10000):=hw9▸H9;clear hw9 H8;generalize w8.heap.size=cb at H9⊢;have hd:=hid (Jpr H9 (id:=2) (by rw[hh8];simp) [⟨#[80,73,78,71]⟩] 1)
 replace hh8:=hid hh8;clear H9;go_wp2_with fail;refine hd.out.mono ?_;rintro e w10 ⟨rfl,H10⟩;clear hd;unfold J3;go_upto_region 9 with fail;have H11:=H10.val (J1b 0 ByteArray.empty 0 (.slice none 0 0));generalize hw11:w10.alloc _=w11;replace H11:Kd w0 w11 _ hb s8 .none (J4w 10000):=hw11▸H11;clear hw11 H10;generalize w10.heap.size=db at H11⊢;go_upto_region 10 with fail;have H12:=H11.val (Kc 1 kB);generalize hw12:w11.alloc _=w12;replace H12:Kd w0 w12 _ hb s8 .none (J4w 10000):=hw12▸H12;clear hw12 H11;generalize w11.heap.size=kb at H12⊢;obtain⟨R0,hR0⟩:∃R0:Hp,R0=(db,J1b 0 ByteArray.empty 0 (.slice none 0 0))::(cb,J1b kd8 okB nn8 (.slice a8 n8 c8))::(bb,J1b kd6 (Jo 132) nn6 (.slice a6 n6 c6))::(ab,J1b kd J37 nn (.slice a n c))::r:=⟨_,rfl⟩
 rw[<-hR0] at H12;replace hR0:=hid hR0;have S12:=H12.st;have hok8:=hid (show s8.hb=hb/\s8.Ok .none (J4w 10000) from⟨H12.e,H12.ok⟩);obtain⟨R,hR⟩:∃R:Hp,R=s8.hp++((kb,Kc 1 kB)::R0):=⟨_,rfl⟩
 rw[<-hR] at S12;have hmem:(kb,Kc 1 kB)∈R:=by rw[hR];simp
 have hkc:Hid (∀(w':World) (L:Hp),J1 w0 [] w' L->(kb,Kc 1 kB)∈L->(w'.cell? ⟨kb,0,none⟩=some (.int .i64 1)/\w'.cell? ⟨kb,1,none⟩=some (.int .i64 0)/\w'.cell? ⟨kb,2,none⟩=some (.int .i64 0)/\w'.cell? ⟨kb,3,none⟩=some (.string kB))):=hid fun w' L h hm=>by
  have h2:=h.own.at_ _ hm;exact⟨J0 h2 0,J0 h2 1,J0 h2 2,J0 h2 3⟩
 replace hR:=hid hR;clear H12;have T0:=hid S12.drew;have T1:=hid (S12.alloc Zr).drew;have T2:=hid ((S12.alloc Zr).alloc Zr).drew;have kk0:=hkc.out _ _ T0.out hmem;have kk1:=hkc.out _ _ T1.out (List.mem_cons_of_mem _ hmem);have kk2:=hkc.out _ _ T2.out (List.mem_cons_of_mem _ (List.mem_cons_of_mem _ hmem));have kk3:=hkc.out _ _ S12 hmem;clear S12;have hpn:=fun (w':World) (L:Hp)=>hid fun h:J1 w0 [] w' L=>Jpi h kB
 have hpo:=fun (w':World) (L:Hp)=>hid fun h:J1 w0 [] w' L=>Jpj h kB
 unfold Jo5 at hpn hpo;replace hmem:=hid hmem;replace kk0:=hid kk0;replace kk1:=hid kk1;replace kk2:=hid kk2;obtain⟨f0,f1,f2,f3⟩:=kk3
 go_cut [15,16] (fun s15 s16 wc=>∃pb qb,s15= .pointer (some ⟨pb,0,none⟩)/\s16= .pointer (some ⟨qb,0,none⟩)/\Hid (Two w0 R wc pb qb))
 case first=>
  go_region_held3 (fun w'=>w'.cell? ⟨kb,0,none⟩=some (.int .i64 1)/\w'.cell? ⟨kb,1,none⟩=some (.int .i64 0)/\w'.cell? ⟨kb,2,none⟩=some (.int .i64 0)/\w'.cell? ⟨kb,3,none⟩=some (.string kB))
   (first|(with_reducible exact kk0.out)|(with_reducible exact kk1.out)|(with_reducible exact kk2.out)|(with_reducible exact kk4.out)|(with_reducible exact kk5.out)|(with_reducible exact kk6.out)|(with_reducible exact ku.out)|(with_reducible exact(ka _).out)|(with_reducible exact(kc _ _).out)|(with_reducible exact(sA _ _ _ _).out)|(with_reducible exact(sB _ _ _ _).out)|(with_reducible exact(oA _ _ _ _ _).out)|(with_reducible exact(oB _ _ _ _ _).out)|(with_reducible exact(mAB _ _ _ _ _ _ _ _).out)|(with_reducible exact(mBA _ _ _ _ _ _ _ _).out)|(fail "keep"))
   (first|(go_at_call 8;(first|(with_reducible refine((hpn _ _).out T0.out).mono ?_)|(with_reducible refine((hpn _ _).out T1.out).mono ?_)|(with_reducible refine((hpn _ _).out T2.out).mono ?_));rintro e u1 ⟨gp,cp,csp,yp,rfl,hF1,SP⟩;replace hF1:=hid hF1;have kk4:=hid (hkc.out _ _ SP (by simp[hmem.out]));have kk5:=hid (hkc.out _ _ (SP.alloc Zr) (by simp[hmem.out]));have kk6:=hid (hkc.out _ _ ((SP.alloc Zr).alloc Zr) (by simp[hmem.out]));replace SP:=hid SP;unfold J3)|(go_at_call 8;(first|(with_reducible refine((hpo _ _).out SP.out).mono ?_)|(with_reducible refine((hpo _ _).out (SP.out.alloc Zr)).mono ?_)|(with_reducible refine((hpo _ _).out ((SP.out.alloc Zr).alloc Zr)).mono ?_));rintro e u2 ⟨gq,cq,csq,yq,rfl,hF2,SQ⟩;(try simp only[World.size_alloc] at SQ);(first|(obtain⟨X,h,hc,hs,SX,hB,hmid,hpre⟩:=Jo3 (gp:=gp) (gq:=gq) (csp:=csp) (csq:=csq) (yp:=yp) (yq:=yq) (R:=R) (pre:=[]) (mid:=[]) SQ hF1.out hF2)|(obtain⟨X,h,hc,hs,SX,hB,hmid,hpre⟩:=Jo3 (gp:=gp) (gq:=gq) (csp:=csp) (csq:=csq) (yp:=yp) (yq:=yq) (R:=R) (pre:=[(_,Zr)]) (mid:=[]) SQ hF1.out hF2;have hz1:=hpre _ (List.mem_cons_self ..);obtain⟨⟨rA0,rA1,rA2,rA3,rA4,rA5,rA6,rA7⟩,⟨tA0,tA1,tA2,tA3,tA4,tA5,tA6,tA7⟩,nA1,nA2⟩:=Ke SX hz1;obtain⟨sA,oA⟩:=Kj SX hmem.out hz1;replace hz1:=hid hz1)|(obtain⟨X,h,hc,hs,SX,hB,hmid,hpre⟩:=Jo3 (gp:=gp) (gq:=gq) (csp:=csp) (csq:=csq) (yp:=yp) (yq:=yq) (R:=R) (pre:=[]) (mid:=[(_,Zr)]) SQ hF1.out hF2;have hz1:=hmid _ (List.mem_cons_self ..);obtain⟨⟨rA0,rA1,rA2,rA3,rA4,rA5,rA6,rA7⟩,⟨tA0,tA1,tA2,tA3,tA4,tA5,tA6,tA7⟩,nA1,nA2⟩:=Ke SX hz1;obtain⟨sA,oA⟩:=Kj SX hmem.out hz1;replace hz1:=hid hz1)|(have hne:=Jpo (gp:=gp) (gq:=gq) (yp:=yp) (yq:=yq) (R:=R) (A:=[]) (B:=[(_,Zr),(_,Zr)]) (C:=[]) SQ rfl;have hne':=Ne.symm hne;obtain⟨X,h,hc,hs,SX,hB,hmid,hpre⟩:=Jo3 (gp:=gp) (gq:=gq) (csp:=csp) (csq:=csq) (yp:=yp) (yq:=yq) (R:=R) (pre:=[(_,Zr),(_,Zr)]) (mid:=[]) SQ hF1.out hF2;have hz1:=hpre _ (List.mem_cons_self ..);have hz2:=hpre _ (List.mem_cons_of_mem _ (List.mem_cons_self ..));obtain⟨⟨rA0,rA1,rA2,rA3,rA4,rA5,rA6,rA7⟩,⟨tA0,tA1,tA2,tA3,tA4,tA5,tA6,tA7⟩,nA1,nA2⟩:=Ke SX hz1;obtain⟨sA,oA⟩:=Kj SX hmem.out hz1;obtain⟨⟨rB0,rB1,rB2,rB3,rB4,rB5,rB6,rB7⟩,⟨tB0,tB1,tB2,tB3,tB4,tB5,tB6,tB7⟩,nB1,nB2⟩:=Ke SX hz2;obtain⟨sB,oB⟩:=Kj SX hmem.out hz2;have mAB:=Kk SX hmem.out hz1 hz2 hne';have mBA:=Kk SX hmem.out hz2 hz1 hne;replace hz1:=hid hz1;replace hz2:=hid hz2)|(have hne:=Jpo (gp:=gp) (gq:=gq) (yp:=yp) (yq:=yq) (R:=R) (A:=[(_,Zr),(_,Zr)]) (B:=[]) (C:=[]) SQ rfl;have hne':=Ne.symm hne;obtain⟨X,h,hc,hs,SX,hB,hmid,hpre⟩:=Jo3 (gp:=gp) (gq:=gq) (csp:=csp) (csq:=csq) (yp:=yp) (yq:=yq) (R:=R) (pre:=[]) (mid:=[(_,Zr),(_,Zr)]) SQ hF1.out hF2;have hz1:=hmid _ (List.mem_cons_self ..);have hz2:=hmid _ (List.mem_cons_of_mem _ (List.mem_cons_self ..));obtain⟨⟨rA0,rA1,rA2,rA3,rA4,rA5,rA6,rA7⟩,⟨tA0,tA1,tA2,tA3,tA4,tA5,tA6,tA7⟩,nA1,nA2⟩:=Ke SX hz1;obtain⟨sA,oA⟩:=Kj SX hmem.out hz1;obtain⟨⟨rB0,rB1,rB2,rB3,rB4,rB5,rB6,rB7⟩,⟨tB0,tB1,tB2,tB3,tB4,tB5,tB6,tB7⟩,nB1,nB2⟩:=Ke SX hz2;obtain⟨sB,oB⟩:=Kj SX hmem.out hz2;have mAB:=Kk SX hmem.out hz1 hz2 hne';have mBA:=Kk SX hmem.out hz2 hz1 hne;replace hz1:=hid hz1;replace hz2:=hid hz2)|(have hne:=Jpo (gp:=gp) (gq:=gq) (yp:=yp) (yq:=yq) (R:=R) (A:=[(_,Zr)]) (B:=[(_,Zr)]) (C:=[]) SQ rfl;have hne':=Ne.symm hne;obtain⟨X,h,hc,hs,SX,hB,hmid,hpre⟩:=Jo3 (gp:=gp) (gq:=gq) (csp:=csp) (csq:=csq) (yp:=yp) (yq:=yq) (R:=R) (pre:=[(_,Zr)]) (mid:=[(_,Zr)]) SQ hF1.out hF2;have hz1:=hmid _ (List.mem_cons_self ..);have hz2:=hpre _ (List.mem_cons_self ..);obtain⟨⟨rA0,rA1,rA2,rA3,rA4,rA5,rA6,rA7⟩,⟨tA0,tA1,tA2,tA3,tA4,tA5,tA6,tA7⟩,nA1,nA2⟩:=Ke SX hz1;obtain⟨sA,oA⟩:=Kj SX hmem.out hz1;obtain⟨⟨rB0,rB1,rB2,rB3,rB4,rB5,rB6,rB7⟩,⟨tB0,tB1,tB2,tB3,tB4,tB5,tB6,tB7⟩,nB1,nB2⟩:=Ke SX hz2;obtain⟨sB,oB⟩:=Kj SX hmem.out hz2;have mAB:=Kk SX hmem.out hz1 hz2 hne';have mBA:=Kk SX hmem.out hz2 hz1 hne;replace hz1:=hid hz1;replace hz2:=hid hz2));obtain⟨ku,ka,kc⟩:=Jor SX hmem.out;replace hF2:=hid hF2;replace SX:=hid SX;replace hB:=hid hB;clear SQ SP kk4 kk5 kk6 hmid hpre hF1 hF2;unfold J3)|(fail "arm"))
  all_goals
   go_wp2_with fail;go_meet
   refine⟨_,_,rfl,rfl,?_⟩
   first
   |(with_reducible exact hid (Jqh SX.out hB.out))
   |(with_reducible exact hid (Jqi SX.out hB.out))
   |(with_reducible exact hid (Jpn SX.out hB.out hz1.out))
   |(with_reducible exact hid (Jp9 SX.out hB.out hz1.out))
   |(with_reducible exact hid (Jp0 SX.out hB.out hz1.out hz2.out hne'))
   |(with_reducible exact hid (Jp0 SX.out hB.out hz2.out hz1.out hne))
 case rest=>
  obtain⟨pb,qb,rfl,rfl,hT⟩:=hcut
  rename_i wc
  obtain⟨X,gp,cp,gq,cq,h,hc,csp,csq,hs,S13,mp,mq,hB⟩:=hT.out
  clear hT hpn hpo T0 T1 T2 kk0 kk1 kk2 f0 f1 f2 f3 hkc hmem;have hS13:=hid S13
  have hin:Hid (∀(w':World) (Y:Hp),J1 w0 [] w' (Y++(X++R))->((w'.cell? ⟨pb,0,none⟩=some (.int .i64 14)/\w'.cell? ⟨pb,5,none⟩=some (.slice (some ⟨gp,0,none⟩) 2 cp)/\w'.cell? ⟨gp,11,none⟩=some (.slice (some ⟨h,0,none⟩) 1 hc)/\w'.cell? ⟨h,1,none⟩=some (.string kB))/\
   (w'.cell? ⟨qb,0,none⟩=some (.int .i64 5)/\w'.cell? ⟨qb,5,none⟩=some (.slice (some ⟨gq,0,none⟩) 3 cq)/\w'.cell? ⟨gq,7,none⟩=some (.string ⟨#[95,95,114,101,100,105,115,95,95,58,105,110,118,97,108,105,100,97,116,101]⟩))/\
   (w'.cell? ⟨ab,1,none⟩=some (.string ⟨#[78,79,80,82,79,84,79,32,117,110,115,117,112,112,111,114,116,101,100,32,112,114,111,116,111,99,111,108,32,118,101,114,115,105,111,110]⟩)/\w'.cell? ⟨bb,1,none⟩=some (.string ⟨#[69,82,82,32,111,112,116,105,111,110,115,32,100,111,32,110,111,116,32,103,111,32,116,111,103,101,116,104,101,114]⟩)/\w'.cell? ⟨cb,1,none⟩=some (.string okB)/\w'.cell? ⟨db,0,none⟩=some (.int .i64 0)))):=hid fun w' Y hw=>by
   have ho:=hw.own.right;have hx:=fun q hq=>ho.left.at_ q hq
   have hr:=ho.right;rw[hR.out] at hr;have h0:=hr.right.tail;rw[hR0.out] at h0;refine⟨⟨J0 (hx _ mp) 0,J0 (hx _ mp) 5,by rw[J0 (hx _ hB.mp),List.getElem?_toArray,hB.cp],by rw[J0 (hx _ hB.mh),List.getElem?_toArray,hB.ch]⟩,⟨J0 (hx _ mq) 0,J0 (hx _ mq) 5,by rw[J0 (hx _ hB.mq),List.getElem?_toArray,hB.cq];rfl⟩,?_,?_,J0 h0.tail.head 1,J0 h0.head 0⟩
   ·exact J0 h0.tail.tail.tail.head 1
   ·have:=J0 h0.tail.tail.head 1
    rw[Jqe] at this;exact this
  have hhub:Hid (∀(w':World) (Y:Hp),J1 w0 [] w' (Y++(X++R))->Own w' (s8.hp++((kb,Kc 1 kB)::R0))):=hid fun w' Y hw=>by
   have:=hw.own.right.right
   rw[hR.out] at this;exact this
  have hpick:Hid (∀(w':World) (Y:Hp),J1 w0 [] w' (Y++(X++R))->J1 w0 [] w' r):=hid fun w' Y hw=>hw.pick (l2:=r) (m:=Y++(X++(s8.hp++[(kb,Kc 1 kB),(db,J1b 0 ByteArray.empty 0 (.slice none 0 0)),(cb,J1b kd8 okB nn8 (.slice a8 n8 c8)),(bb,J1b kd6 (Jo 132) nn6 (.slice a6 n6 c6)),(ab,J1b kd J37 nn (.slice a n c))]))) (J2 fun f=>by
   rw[hR.out,hR0.out];simp only[SC];omega)
  have hid2:(2:Int)∉s8.hs.map Hc.id:=by rw[hh8.out];simp
  have hid1:(⟨1,cb1,2⟩:Hc)∈s8.hs:=by rw[hh8.out];simp
  have hp1:∀(w':World) (Y:Hp),Hid (J1 w0 [] w' (Y++(X++R))->Calls Tryz.prog 9 #[ptr hb,.int .i64 1] w' fun e w''=>e= .returned (.int .i64 2)/\w''=w'):=fun w' Y=>hid fun hw=>by
   have:=Jm5 (hhub.out w' Y hw) hok8.out.2 hid1
   rw[hok8.out.1] at this;exact this
  have hp2:∀(w':World) (Y:Hp),Hid (J1 w0 [] w' (Y++(X++R))->Calls Tryz.prog 9 #[ptr hb,.int .i64 2] w' fun e w''=>e= .returned (.int .i64 0)/\w''=w'):=fun w' Y=>hid fun hw=>by
   have:=Jmt (hhub.out w' Y hw) hok8.out.2 hid2
   rw[hok8.out.1] at this;exact this
  have hp3:∀(w':World) (Y:Hp),Hid (J1 w0 [] w' (Y++(X++R))->Calls Tryz.prog 10 #[ptr hb,.int .i64 2] w' fun e w''=>e= .returned (.string ByteArray.empty)/\w''=w'):=fun w' Y=>hid fun hw=>by
   have:=Jn4 (hhub.out w' Y hw) hok8.out.2 hid2
   rw[hok8.out.1] at this;exact this
  clear hid2 hid1 hhub hok8 hh8 hB mp mq S13;replace hR:=hid hR;obtain⟨⟨p0,p5,p11,ph⟩,⟨q0,q5,q7⟩,a1,b1,c1,d0⟩:=hin.out wc [] hS13.out
  have hbr:=Jom hS13.out;unfold Jo5 at hbr;replace hbr:=hid hbr;clear hS13;go_wp2_with fail;refine hbr.out.mono ?_;rintro e w15 ⟨g5,c5,cs5,y5,rfl,hF5,S15⟩;clear hbr p0 p5 p11 ph q0 q5 q7 a1 b1 c1 d0
  have k5:w15.cell? ⟨g5,1,none⟩=some (.string ⟨#[116,114,97,99,107,105,110,103,45,114,101,100,105,114,45,98,114,111,107,101,110]⟩):=by
   rw[J0 S15.own.head,List.getElem?_toArray];exact hF5
  have hfd5:(Instr.field 29 (.agg #[.int .i64 14,.string ByteArray.empty,.int .i64 0,.float .f64 0,.bool false,.slice (some ⟨g5,0,none⟩) 1 c5]) 5).run Tryz.prog w15= .ok (.slice (some ⟨g5,0,none⟩) 1 c5) w15:=by kernel_rfl
  have S16:J1 w0 [] w15 (((g5,.cells cs5.toArray 29 (0,0))::y5)++(X++R)):=S15;have hal:=Jph S16;unfold Jo5 at hal;replace hal:=hid hal;clear S15 S16 hF5;unfold J3;go_wp2_with fail;refine hal.out.mono ?_;rintro e w16 ⟨g6,c6',cs6,y6,rfl,hF6,S17⟩;clear hal k5 hfd5
  have k6:w16.cell? ⟨g6,6,none⟩=some (.int .i64 6):=by
   rw[J0 S17.own.head,List.getElem?_toArray];exact hF6
  have hfd6:(Instr.field 29 (.agg #[.int .i64 14,.string ByteArray.empty,.int .i64 0,.float .f64 0,.bool false,.slice (some ⟨g6,0,none⟩) 2 c6']) 5).run Tryz.prog w16= .ok (.slice (some ⟨g6,0,none⟩) 2 c6') w16:=by kernel_rfl
  have S18:J1 w0 [] w16 (((g6,.cells cs6.toArray 29 (0,0))::(y6++((g5,.cells cs5.toArray 29 (0,0))::y5)))++(X++R)):=S17.permR (J2 fun f=>by
   simp only[List.map_append,List.sum_append,List.map_cons,List.sum_cons,List.cons_append];omega)
  have e1:=hid ((hp1 w16 _).out S18);have e2:=hid ((hp2 w16 _).out S18);have e3:=hid ((hp3 w16 _).out S18);have S19:=hid (hpick.out w16 _ S18);clear S17 S18 hF6 hp1 hp2 hp3 hpick;unfold J3;go_wp2_with fail;refine e1.out.mono ?_;rintro e w17 ⟨rfl,rfl⟩;clear e1 k6 hfd6;go_wp2_with fail;refine e2.out.mono ?_;rintro e w18 ⟨rfl,rfl⟩;clear e2;go_wp2_with fail;refine e3.out.mono ?_;rintro e w19 ⟨rfl,rfl⟩;clear e3;go_wp2_with fail;go_ret;exact⟨rfl,S19.out⟩
end Go.Proofs.YtefjbegnlolgbaaGreatDoor
