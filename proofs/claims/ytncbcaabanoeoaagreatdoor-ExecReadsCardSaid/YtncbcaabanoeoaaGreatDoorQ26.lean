/-
texts: set.
-/
import Derived.Deep.CutBlock
import Derived.Lib.LaidTab
import Derived.ProofKit
import Derived.Stop.LaidErr
import Derived.WalkKit
import Derived.Test.YtncbcaabanoeoaaGreatDoorQ12
import Derived.Test.YtncbcaabanoeoaaGreatDoorQ15
import Derived.Test.YtncbcaabanoeoaaGreatDoorQ25
import Derived.Test.YtncbcaabanoeoaaGreatDoorRows
set_option linter.unusedVariables false
set_option linter.unusedSimpArgs false
set_option maxRecDepth 100000
set_option maxHeartbeats 8000000
namespace Go.Proofs.YtncbcaabanoeoaaGreatDoor
open Go Go.RowKit
variable {w0 w:World}{l r:Hp}{sb:Nat}{S:St}
theorem Jar (now n unit:Int):(J01 now n unit).2=0\/(J01 now n unit).2=111:=by
 unfold J01;split
 ·exact .inr rfl
 ·split
  ·exact .inr rfl
  ·split
   ·exact .inr rfl
   ·exact .inl rfl
theorem Jgs (now n unit:Int):(J01 now n unit).1<=4611686018427387904:=by
 unfold J01;split
 ·simp
 ·split
  ·simp
  ·split
   ·simp
   ·rename_i h;simp only;omega
theorem Jlb (now:Int) (l:List ByteArray):(J3p now l).2=0\/(¬(J3p now l).2=0/\K2 (J3p now l).2):=by
 unfold J3p K2;split
 ·split
  ·right;simp
  ·split
   ·left;rfl
   ·split
    ·right;simp
    ·split
     ·right;simp
     ·rename_i x _ _
      rcases Jar now x (Jt l J05).1.unit with h|h
      ·left;exact h
      ·right;simp only[h];simp
 ·right;simp
theorem Jns (now:Int) (l:List ByteArray):(J3p now l).1.when_<=4611686018427387904:=by
 unfold J3p;split
 ·split
  ·simp[J0l]
  ·split
   ·simp[J0l]
   ·split
    ·simp[J0l]
    ·split
     ·simp[J0l]
     ·exact Jgs _ _ _
 ·simp[J0l]
def Jpa (S:St) (now:Int) (key s:ByteArray) (o:Opt):St×Lf:=
 if o.get=true/\(J3j (S.look key now)).kind=2 then(S.due key now,J3j (S.look key now)) else
 if((o.nx&&(S.look key now).isSome)||(o.xx&&!(S.look key now).isSome))=true then(S.due key now,if o.get then J3j (S.look key now) else J34) else
 if(S.due key now).putE key (Ji s)=0 then
  (if o.ends then(((S.due key now).putG key (Ji s) o.keep now).due key now).expire key o.when_ now else(S.due key now).putG key (Ji s) o.keep now,if o.get then J3j (S.look key now) else J44)
 else((S.due key now).putG key (Ji s) o.keep now,Kt ((S.due key now).putE key (Ji s)))
def Jaq (S:St) (now:Int) (key s:ByteArray) (l:List ByteArray):St×Lf:=
 if(J3p now l).2=0 then Jpa S now key s (J3p now l).1 else(S,Kt (J3p now l).2)
theorem Jp5 {g off:Nat} {k m:ByteArray} {ws:List ByteArray} (h:Ctx w0 w l r sb S g off (k::m::ws)) (now:Int) (hnow:0<=now/\now<=4611686018427387904) (cap:Nat) (hcap:(k::m::ws).length<=cap) (hcap2:cap<=9223372036854775807):
 Calls Tryz.prog 40 #[Kv sb now g off (k::m::ws).length cap] w (Jp w0 r sb (Jaq S now k m ws).1 (Ja (Jaq S now k m ws).2)):=by
 have H:=(h.alloc (Jy sb now g off (k::m::ws).length cap)).alloc J4;generalize hT:Jaq S now k m ws=T;clear h;obtain⟨n,hlen⟩:∃n,(k::m::ws).length=n:=⟨_,rfl⟩
 have hn2:1<n:=by rw[<-hlen];simp only[List.length_cons];omega
 have hn3:(1:Int)<(n:Int):=by omega
 have hn4:0<n:=by omega
 rw[hlen] at H hcap⊢;replace hlen:=hid hlen;replace hT:=hid hT;replace H:=hid H;go_enter Tryz.func40,Tryz.ntmps40;unfold Kv;go_upto_region 1 with fail;generalize hw1:(w.alloc _).alloc _=w1;replace H:Ctx w0 w1 _ _ _ _ _ _ _:=hw1▸H.out;clear hw1;simp only[World.size_alloc] at H;generalize w.heap.size=b at H⊢;have hjob:=hid (Ctx.job (A:=[(b+1,J4)]) H);obtain⟨R,hR⟩:∃R,R=[(b+1,J4)]++(b,Jy sb now g off n cap)::r:=⟨_,rfl⟩
 rw[<-hR] at hjob;replace H:Ctx w0 w1 l R sb S g off (k::m::ws):=hR▸H
 have hend:Hid (∀(w':World) (l3 X:Hp) (a':Lf),J3 w0 [] w' (l3++(X++R))->J3 w0 [] _ (l3++r)):=hid fun w' l3 X a' h=>((h.permR (l2:=(b+1,J4)::(l3++r++(X++[(b,Jy sb now g off n cap)]))) (J5 fun f=>by
  rw[hR];simp only[SC];omega)).setLf a').less (List.sublist_append_left _ _)
 have hres:(b+1,J4)∈R:=by rw[hR];simp
 obtain⟨j0,j1,j2⟩:=hjob.out.at_ w1 ⟨l,H.st⟩
 have hopt:Calls Tryz.prog 86 #[Kv sb now g off n cap] w1 (Jo7 w0 (l++R) (J3p now ws)):=by
  have:=Jk8 H now hnow cap (by rw[hlen.out];exact hcap) hcap2
  rw[hlen.out] at this;exact this
 unfold Kv at hopt;have hknown:=Jlb now ws;have hwhen:=Jns now ws;have hTT:Hid (T=if(J3p now ws).2=0 then Jpa S now k m (J3p now ws).1 else(S,Kt (J3p now ws).2)):=hid hT.out.symm
 clear hT hR;generalize J3p now ws=p at hopt hknown hwhen hTT;obtain⟨o0,code⟩:=p
 simp only at hknown hTT hwhen
 replace hopt:=hid hopt;replace H:=hid H;rcases hknown with rfl|⟨hne,hkn⟩
 ·rw[if_pos rfl] at hTT
  go_wp2_with fail;refine hopt.out.mono ?_;rintro e w2 ⟨o,rfl,ho,S2⟩;simp only at ho
  obtain rfl:o=o0:=ho trivial;clear hopt ho j0 j1 j2;unfold J0n;obtain⟨nx,xx,get,keep,ends,wh⟩:=o
  simp only at hwhen⊢
  go_upto_region 4 with fail;have S3:=S2.alloc (Ks ⟨nx,xx,get,keep,ends,wh⟩);generalize hw3:w2.alloc _=w3;replace S3:J3 w0 [] w3 _:=hw3▸S3;clear hw3 S2;generalize w2.heap.size=ob at S3⊢;have H3:=hid (H.out.at (r':=(ob,Ks ⟨nx,xx,get,keep,ends,wh⟩)::R) (x:=[(ob,Ks ⟨nx,xx,get,keep,ends,wh⟩)]) rfl (S3.permR (J5 fun f=>by simp only[SC];omega)))
  have hx3:InX w0 R w3:=⟨(ob,Ks ⟨nx,xx,get,keep,ends,wh⟩)::l,S3⟩;obtain⟨j0,j1,j2⟩:=hjob.out.at_ w3 hx3
  have ja:w3.cell? ⟨g,off,none⟩=some (.string k):=hjob.out.arg w3 hx3 0 k rfl;have hpeek:=hid (H3.out.peek k (by simp) now [] H3.out.st)
  have hpd:Hid (∀(w':World) (l2 x:Hp),Jh l2 sb (S.due k now)->J3 w0 [] w' (l2++(x++R))->Ctx w0 w' l2 (x++R) sb (S.due k now) g off (k::m::ws)):=hid fun w' l2 x h1 h2=>H.out.peeked k now h1 h2
  clear S3 hx3 H H3;obtain⟨kd,hkd⟩:∃kd,kd=((S.look k now).getD Jc).kind:=⟨_,rfl⟩
  obtain⟨tx,htx⟩:∃tx,tx=((S.look k now).getD Jc).text:=⟨_,rfl⟩
  obtain⟨is,his⟩:∃is,is=(S.look k now).isSome:=⟨_,rfl⟩
  rw[<-hkd,<-htx,<-his] at hpeek;have htold:∀(w':World) (L:Hp) (v:Value),Hid (J3 w0 [] w' L->_):=fun w' L v=>hid fun hw=>Jf1 hw (S.look k now) v
  obtain⟨a,ha⟩:∃a,a=J3j (S.look k now):=⟨_,rfl⟩
  rw[<-ha,<-hkd,<-htx,<-his] at htold;unfold Ja J7 at htold;unfold Jpa at hTT;rw[<-ha,<-his] at hTT;simp only at hTT
  clear hkd htx his ha;go_wp2_with fail;refine hpeek.out.mono ?_;rintro e w4 ⟨va,vn,vc,vl,l2,rfl,hat,hX,S4,_⟩;clear hpeek j0 j1 j2 ja hat;go_upto_region 6 with fail;have S5:=S4.out.alloc (Jb kd tx (.slice va vn vc));generalize hw5:w4.alloc _=w5;replace S5:J3 w0 [] w5 _:=hw5▸S5;clear hw5 S4;generalize w4.heap.size=itb at S5⊢;have hok:=hid (Jih S5);clear S5;go_wp2_with fail;refine hok.out.mono ?_;rintro e w6 ⟨rfl,S6⟩;clear hok;unfold J7;go_upto_region 7 with fail;have S7:=S6.alloc (J0h J44);generalize hw7:w6.alloc _=w7;replace S7:J3 w0 [] w7 _:=hw7▸S7;clear hw7 S6;generalize w6.heap.size=ab at S7⊢;obtain⟨q0,q1,q2,q3,q4,q5⟩:=J5c (S7.own.at_ (ob,Ks ⟨nx,xx,get,keep,ends,wh⟩) (by simp))
  go_upto_if 34 with fail
  have S8:=S7.permR (l2:=(ab,J0h J44)::(l2++([(ob,Ks ⟨nx,xx,get,keep,ends,wh⟩)]++R)++((itb,Jb kd tx (.slice va vn vc))::vl))) (J5 fun f=>by
   simp only[SC];omega)
  obtain⟨x0,x1,x2,_⟩:=Jn (S7.own.at_ (itb,Jb kd tx (.slice va vn vc)) (by simp))
  have hne8:¬ab=b+1/\¬b+1=ab:=by
   have hnd:=S7.own.nd;rw[J0y,List.nodup_cons] at hnd
   have:¬ab=b+1:=fun e=>hnd.1 (by
    rw[e];exact List.mem_map.2 ⟨(b+1,J4),List.mem_cons_of_mem _ (List.mem_append_right _ (List.mem_append_right _ (List.mem_append_right _ (List.mem_cons_of_mem _ hres)))),rfl⟩)
   exact⟨this,fun e=>this e.symm⟩
  obtain⟨hne8a,hne8b⟩:=hne8
  replace S8:=hid S8;clear S7;go_cut [8] (fun s8 wx=>s8= .pointer (some ⟨ab,0,none⟩)/\Hid (get=true->¬a.kind=2)/\Hid (J3 w0 [] wx ((ab,J0h (if get then a else J44))::(l2++([(ob,Ks ⟨nx,xx,get,keep,ends,wh⟩)]++R)++((itb,Jb kd tx (.slice va vn vc))::vl)))))
  case first=>
   cases get with
   |false=>
    clear htold q0 q1 q2 q3 q4 q5 x0 x1 x2;go_wp2_with fail;go_meet
    exact⟨rfl,hid (fun h=>by cases h),S8⟩
   |true=>
    have hto:=hid ((htold _ _ (.slice va vn vc)).out S8.out);clear htold q0 q1 q2 q3 q4 q5;go_wp2_with fail;refine hto.out.mono ?_;rintro e w8 ⟨rfl,S9⟩;obtain⟨⟨c0,hc0⟩,⟨c1,hc1⟩,⟨c2,hc2⟩,⟨c3,hc3⟩,⟨c4,hc4⟩,⟨c5,hc5⟩,fz,hlt⟩:=Jl S9.own.head
    have S10:J3 w0 [] _ ((ab,J0h a)::(l2++([(ob,Ks ⟨nx,xx,true,keep,ends,wh⟩)]++R)++((itb,Jb kd tx (.slice va vn vc))::vl))):=S9.setLf' a;clear x0 x1 x2 hto S8;go_upto_region 9 with fail;generalize hw9:(((((w8.setCell _ _).setCell _ _).setCell _ _).setCell _ _).setCell _ _).setCell _ _=w9;replace S10:J3 w0 [] w9 _:=hw9▸S10;clear hw9 hc0 hc1 hc2 hc3 hc4 hc5 fz hlt S9;obtain⟨a0,a1,a2,a3,a4,a5⟩:=Jmq S10.own.head
    by_cases ha2:a.kind=2
    ·have hz:Hid (T=(S.due k now,a)):=hid (by rw[hTT.out];simp only[ha2,and_self,if_true])
     have ha2b:(a.kind==2)=true:=by rw[ha2];rfl
     have S11:=hid (hend.out _ l2 ([(ab,J0h a),(ob,Ks ⟨nx,xx,true,keep,ends,wh⟩)]++((itb,Jb kd tx (.slice va vn vc))::vl)) a (S10.permR (J5 fun f=>by
      simp only[SC];omega)))
     obtain⟨⟨d0,hd0⟩,⟨d1,hd1⟩,⟨d2,hd2⟩,⟨d3,hd3⟩,⟨d4,hd4⟩,⟨d5,hd5⟩,fz2,hlt2⟩:=Jl (S10.own.at_ (b+1,J4) (by simp[hres]))
     clear S10 hTT ha2;go_wp2_with fail;refine bodyPost_ret (v:=Ja a) (by simp[results,Tryz.results40,go_sem,J7,Ja, *]<;>rfl) rfl ?_
     rw[hz.out];exact⟨rfl,l2,hX.out,S11.out⟩
    ·have ha2b:(a.kind==2)=false:=by simpa using ha2
     replace S10:=hid S10;replace ha2:=hid ha2;go_wp2_with fail;go_meet
     exact⟨rfl,hid (fun _=>ha2.out),S10⟩
  case rest=>
   obtain⟨rfl,hg,S9⟩:=hcut
   clear S8 htold x0 x1 x2 hne8a hne8b;obtain⟨A,hA⟩:∃A,A=if get then a else J44:=⟨_,rfl⟩
   rw[<-hA] at S9;obtain⟨RR,hRR⟩:∃RR:Hp,RR=([(ab,J0h A),(ob,Ks ⟨nx,xx,get,keep,ends,wh⟩)]++((itb,Jb kd tx (.slice va vn vc))::vl))++R:=⟨_,rfl⟩
   have S10:J3 w0 [] wc (l2++RR):=S9.out.permR (J5 fun f=>by
    rw[hRR];simp only[SC];omega)
   have H2:=hid (hpd.out wc l2 ([(ab,J0h A),(ob,Ks ⟨nx,xx,get,keep,ends,wh⟩)]++((itb,Jb kd tx (.slice va vn vc))::vl)) hX.out (by rw[<-hRR];exact S10))
   rw[<-hRR] at H2
   have hTT2:Hid (T=if((nx&&is)||(xx&&!is))=true then(S.due k now,if get then a else J34) else
    if(S.due k now).putE k (Ji m)=0 then
    (if ends then(((S.due k now).putG k (Ji m) keep now).due k now).expire k wh now else(S.due k now).putG k (Ji m) keep now,A)
    else((S.due k now).putG k (Ji m) keep now,Kt ((S.due k now).putE k (Ji m)))):=hid (by
    rw[hTT.out,if_neg (fun h=>hg.out h.1 h.2),hA])
   have hinx:∀(w':World) (l3:Hp),J3 w0 [] w' (l3++RR)->InX w0 R w':=fun w' l3 h=>h.inX (l3++([(ab,J0h A),(ob,Ks ⟨nx,xx,get,keep,ends,wh⟩)]++((itb,Jb kd tx (.slice va vn vc))::vl))) (List.Perm.of_eq (by rw[hRR];simp only[List.append_assoc]))
   have hfin:Hid (∀(w':World) (l3:Hp) (a':Lf),J3 w0 [] w' (l3++RR)->J3 w0 [] _ (l3++r)):=hid fun w' l3 a' h=>hend.out w' l3 ([(ab,J0h A),(ob,Ks ⟨nx,xx,get,keep,ends,wh⟩)]++((itb,Jb kd tx (.slice va vn vc))::vl)) a' (by rw[hRR,List.append_assoc] at h;exact h)
   have hmo:(ob,Ks ⟨nx,xx,get,keep,ends,wh⟩)∈RR:=by rw[hRR];simp
   have hma:(ab,J0h A)∈RR:=by rw[hRR];simp
   have hmr:(b+1,J4)∈RR:=by rw[hRR];simp[hres]
   have hall:Hid (∀(w':World) (l3:Hp),J3 w0 [] w' (l3++RR)->Jo6 w' b sb now g off n cap/\Jxm w' ob ⟨nx,xx,get,keep,ends,wh⟩/\Jy0 w' ab A/\w'.cell? ⟨g,off,none⟩=some (.string k)/\w'.cell? ⟨g,off+1,none⟩=some (.string m)):=hid fun w' l3 h=>
    ⟨hjob.out.at_ w' (hinx w' l3 h),J5c (h.own.at_ _ (List.mem_append_right _ hmo)),Jmq (h.own.at_ _ (List.mem_append_right _ hma)),hjob.out.arg w' (hinx w' l3 h) 0 k rfl,hjob.out.arg w' (hinx w' l3 h) 1 m rfl⟩
   have hzr:∀(w':World) (l3:Hp),Hid (J3 w0 [] w' (l3++RR)->w'.heap[b+1]? =some J4):=fun w' l3=>hid fun h=>h.own.at_ _ (List.mem_append_right _ hmr)
   clear S9 hTT hinx hpd hmo hma hmr hend hRR hjob;obtain⟨_,⟨q0,q1,q2,q3,q4,q5⟩,⟨a0,a1,a2,a3,a4,a5⟩,_⟩:=hall.out wc l2 S10
   replace S10:=hid S10;go_upto_region 11 with fail;go_cut [54] (fun c wx=>c= .bool ((nx&&is)||(xx&&!is))/\wx=wc)
   case first=>
    cases nx<;>cases xx<;>cases is<;>(go_wp2_with fail;go_meet;exact⟨rfl,rfl⟩)
   case rest=>
    obtain⟨rfl,rfl⟩:=hcut
    generalize hbb:((nx&&is)||(xx&&!is))=bb at hTT2⊢
    clear hbb;cases bb with
    |true=>
     replace hTT2:Hid (T=(S.due k now,if get then a else J34)):=hTT2
     clear hall;cases get with
     |false=>
      have hz:Hid (T=(S.due k now,J34)):=hTT2;have hnil:=hid (Jf7 S10.out);clear q0 q1 q3 q4 q5 a0 a1 a2 a3 a4 a5 hTT2 hA;unfold J7 at hnil;go_wp2_with fail;refine hnil.out.mono ?_;rintro e w8 ⟨rfl,S11⟩;obtain⟨⟨d0,hd0⟩,⟨d1,hd1⟩,⟨d2,hd2⟩,⟨d3,hd3⟩,⟨d4,hd4⟩,⟨d5,hd5⟩,fz2,hlt2⟩:=Jl ((hzr _ _).out S11)
      have S12:=hid (hfin.out _ l2 J34 S11);clear hnil S11 S10 hfin hzr q2;go_wp2_with fail;refine bodyPost_ret (v:=Ja J34) (by simp[results,Tryz.results40,go_sem,J7,Ja,J34, *]<;>rfl) rfl ?_
      rw[hz.out];exact⟨rfl,l2,hX.out,S12.out⟩
     |true=>
      have hz:Hid (T=(S.due k now,a)):=hTT2;obtain rfl:A=a:=hA;obtain⟨⟨d0,hd0⟩,⟨d1,hd1⟩,⟨d2,hd2⟩,⟨d3,hd3⟩,⟨d4,hd4⟩,⟨d5,hd5⟩,fz2,hlt2⟩:=Jl ((hzr _ _).out S10.out)
      have S12:=hid (hfin.out _ l2 A S10.out);clear q0 q1 q3 q4 q5 hTT2 S10 hfin hzr;go_wp2_with fail;refine bodyPost_ret (v:=Ja A) (by simp[results,Tryz.results40,go_sem,J7,Ja, *]<;>rfl) rfl ?_
      rw[hz.out];exact⟨rfl,l2,hX.out,S12.out⟩
    |false=>
     replace hTT2:Hid (T=if(S.due k now).putE k (Ji m)=0 then
      (if ends then(((S.due k now).putG k (Ji m) keep now).due k now).expire k wh now else(S.due k now).putG k (Ji m) keep now,A)
      else((S.due k now).putG k (Ji m) keep now,Kt ((S.due k now).putE k (Ji m)))):=hTT2
     clear q0 q1 q2 q3 q4 q5 a0 a1 a2 a3 a4 a5 hA hg;have j0:∀p:InW w0 [] (l2++RR),p.w.cell? ⟨b,0,none⟩=some (ptr sb):=fun p=>((hall.out p.w l2 p.h).1).c0
     have j1:∀p:InW w0 [] (l2++RR),p.w.cell? ⟨b,1,none⟩=some (.int .i64 now):=fun p=>((hall.out p.w l2 p.h).1).c1
     have j2:∀p:InW w0 [] (l2++RR),p.w.cell? ⟨b,2,none⟩=some (.slice (some ⟨g,off,none⟩) n cap):=fun p=>((hall.out p.w l2 p.h).1).c2
     have ja:∀p:InW w0 [] (l2++RR),p.w.cell? ⟨g,off+1,none⟩=some (.string m):=fun p=>(hall.out p.w l2 p.h).2.2.2.2
     have jk:∀p:InW w0 [] (l2++RR),p.w.cell? ⟨ob,3,none⟩=some (.bool keep):=fun p=>((hall.out p.w l2 p.h).2.1).c3
     go_upto_region 15 with fail;refine Jq 12 S10.out (by kernel_rfl) (by kernel_rfl) (fun hne=>?_)
     simp only[List.take_succ_cons,List.take_zero,List.drop_succ_cons,List.drop_zero];repeat (go_big_quiet_step ((go_at_call 88;refine Calls.inw (Jbv (InW.h _) m))))
     refine J04 fun w5 S11=>?_
     clear j0 j1 j2 ja jk hne S10;have hput:=hid (J8e (l:=l2) (il:=[]) (r:=RR) (it:=Ji m) S11 H2.out.gl H2.out.is H2.out.tight (by have:=H2.out.ev;omega) k (H2.out.args.small k (by simp)) (J5n.text m) keep now)
     have hknown:=J5f (S.due k now) k (Ji m);have hput2:=Jgd H2.out.fit H2.out.tight k m keep now;have hsmall:=H2.out.args.small k (by simp)
     have hev:Hid (((S.due k now).putG k (Ji m) keep now).ev.length<=2199023255552):=hid (by
      have h1:=hput2.2.2;have h2:=H2.out.load;unfold St.load at h1 h2;omega)
     have hgl:=hid H2.out.gl;clear S11 H2 hput2;generalize (S.due k now).putE k (Ji m)=pe at hput hknown hTT2;generalize (S.due k now).putG k (Ji m) keep now=pg at hput hTT2 hev;simp only[J6,Ji,List.nil_append] at hput;unfold J6;go_wp2_with fail;refine hput.out.mono ?_;rintro e w6 ⟨rfl,l3,hX3,S12⟩;replace hX3:=hid hX3;clear hput;rcases hknown with rfl|⟨hne,hkn⟩
     ·replace hTT2:Hid (T=(if ends then(pg.due k now).expire k wh now else pg,A)):=hid (by rw[hTT2.out,if_pos rfl])
      obtain⟨⟨j0,j1,j2⟩,⟨q0,q1,q2,q3,q4,q5⟩,⟨a0,a1,a2,a3,a4,a5⟩,_⟩:=hall.out _ _ S12
      cases ends with
      |false=>
       have hz:Hid (T=(pg,A)):=hTT2;obtain⟨⟨d0,hd0⟩,⟨d1,hd1⟩,⟨d2,hd2⟩,⟨d3,hd3⟩,⟨d4,hd4⟩,⟨d5,hd5⟩,fz2,hlt2⟩:=Jl ((hzr _ _).out S12)
       have S13:=hid (hfin.out _ l3 A S12);clear q0 q1 q2 q3 q5 j0 j1 j2 hTT2 S12 hfin hzr hall;go_wp2_with fail;refine bodyPost_ret (v:=Ja A) (by simp[results,Tryz.results40,go_sem,J7,Ja, *]<;>rfl) rfl ?_
       rw[hz.out];exact⟨rfl,l3,hX3.out,S13.out⟩
      |true=>
       have hz:Hid (T=((pg.due k now).expire k wh now,A)):=hTT2;have hexp:=hid (Jdz S12 hgl.out hX3.out hev.out k hsmall wh now hnow.1 (by omega))
       replace S12:=hid S12;clear q0 q1 q2 q3 a0 a1 a2 a3 a4 a5 hTT2;generalize (pg.due k now).expire k wh now=pq at hexp hz;generalize (Je (pg.due k now).L k).isSome=pb at hexp;go_wp2_with fail;refine hexp.out.mono ?_;rintro e w7 ⟨rfl,l4,hX4,S13⟩;obtain⟨_,_,⟨a0,a1,a2,a3,a4,a5⟩,_⟩:=hall.out _ _ S13
       obtain⟨⟨d0,hd0⟩,⟨d1,hd1⟩,⟨d2,hd2⟩,⟨d3,hd3⟩,⟨d4,hd4⟩,⟨d5,hd5⟩,fz2,hlt2⟩:=Jl ((hzr _ _).out S13)
       have S14:=hid (hfin.out _ l4 A S13);clear j0 j1 j2 q4 q5 hexp S12 S13 hfin hzr hall;replace hX4:=hid hX4;go_wp2_with fail;refine bodyPost_ret (v:=Ja A) (by simp[results,Tryz.results40,go_sem,J7,Ja, *]<;>rfl) rfl ?_
       rw[hz.out];exact⟨rfl,l4,hX4.out,S14.out⟩
     ·have hz:Hid (T=(pg,Kt pe)):=hid (by rw[hTT2.out,if_neg hne])
      have herr:=hid (J23 S12 pe hkn);have hpb:(pe==0)=false:=by simpa using hne
      clear S12 hkn hne hTT2;unfold Kt at hz;generalize Jx pe=te at herr hz;unfold J7 at herr;go_wp2_with fail;refine herr.out.mono ?_;rintro e1 w7 ⟨rfl,S13⟩;obtain⟨⟨d0,hd0⟩,⟨d1,hd1⟩,⟨d2,hd2⟩,⟨d3,hd3⟩,⟨d4,hd4⟩,⟨d5,hd5⟩,fz2,hlt2⟩:=Jl ((hzr _ _).out S13)
      have S14:=hid (hfin.out _ l3 ⟨2,te,0⟩ S13);clear herr S13 hfin hzr hall;go_wp2_with fail;refine bodyPost_ret (v:=Ja ⟨2,te,0⟩) (by simp[results,Tryz.results40,go_sem,J7,Ja, *]<;>rfl) rfl ?_
      rw[hz.out];exact⟨rfl,l3,hX3.out,S14.out⟩
 ·have hz:Hid (T=(S,Kt code)):=hid (by rw[hTT.out,if_neg hne])
  clear hTT;go_wp2_with fail;refine hopt.out.mono ?_;rintro e w2 ⟨o,rfl,_,S2⟩;clear hopt j0 j1 j2;unfold J0n;go_upto_region 2 with fail;have S3:=S2.alloc (Ks o);generalize hw3:w2.alloc _=w3;replace S3:J3 w0 [] w3 _:=hw3▸S3;clear hw3 S2;generalize w2.heap.size=ob at S3⊢;have herr:=hid (J23 S3 code hkn);have hcb:(code==0)=false:=by simpa using hne
  unfold Kt at hz;generalize Jx code=te at herr hz;clear S3 hkn hne;go_wp2_with fail;refine herr.out.mono ?_;rintro e1 w4 ⟨rfl,S5⟩;have S6:=hid (hend.out w4 l [(ob,Ks o)] ⟨2,te,0⟩ (S5.permR (J5 fun f=>by simp only[SC];omega)))
  obtain⟨⟨c0,hc0⟩,⟨c1,hc1⟩,⟨c2,hc2⟩,⟨c3,hc3⟩,⟨c4,hc4⟩,⟨c5,hc5⟩,fz,hlt⟩:=Jl (S5.own.at_ _ (List.mem_cons_of_mem _ (List.mem_append_right _ hres)))
  clear herr S5 hend;unfold J7;go_wp2_with fail;refine bodyPost_ret (v:=Ja ⟨2,te,0⟩) (by simp[results,Tryz.results40,go_sem,J7,Ja, *]<;>rfl) rfl ?_
  rw[hz.out];exact⟨rfl,l,H.out.is,S6.out⟩
abbrev J14 (s:Sp):Obj:=.cells #[.string s.name,.int .i64 s.kind,.int .i64 s.least,.int .i64 s.most,.int .i64 s.first,.int .i64 s.last,.int .i64 s.step] 45 (0,0)
theorem Ctx.tail {g off:Nat} {c:ByteArray} {ws:List ByteArray} (h:Ctx w0 w l r sb S g off (c::ws)):Ctx w0 w l r sb S g (off+1) ws:=
 ⟨h.st,h.gl,h.is,h.tight,h.load,h.args.drop 1⟩
def Jzy:Sp:=⟨⟨#[71,69,84]⟩,1,2,2,1,1,1⟩
def Jp6:Sp:=⟨⟨#[83,69,84]⟩,2,3,64,1,1,1⟩
def Jp7:Sp:=⟨⟨#[83,69,84,78,88]⟩,2,3,3,1,1,1⟩
def Jl4:Sp:=⟨⟨#[71,69,84,83,69,84]⟩,2,3,3,1,1,1⟩
def Jl3:Sp:=⟨⟨#[71,69,84,68,69,76]⟩,2,2,2,1,1,1⟩
def Jyy:Sp:=⟨⟨#[77,71,69,84]⟩,1,2,64,1,(-1),1⟩
def Jv4:Sp:=⟨⟨#[77,83,69,84]⟩,2,3,64,1,(-1),2⟩
def Jv3:Sp:=⟨⟨#[73,78,67,82]⟩,2,2,2,1,1,1⟩
def Jv2:Sp:=⟨⟨#[68,69,67,82]⟩,2,2,2,1,1,1⟩
def Jl5:Sp:=⟨⟨#[73,78,67,82,66,89]⟩,2,3,3,1,1,1⟩
def Jl1:Sp:=⟨⟨#[68,69,67,82,66,89]⟩,2,3,3,1,1,1⟩
def Jl0:Sp:=⟨⟨#[65,80,80,69,78,68]⟩,2,3,3,1,1,1⟩
def Jv6:Sp:=⟨⟨#[83,84,82,76,69,78]⟩,1,2,2,1,1,1⟩
abbrev J33 (ws:List ByteArray):Obj:=.cells (ws.map Value.string).toArray 9 (0,0)
theorem Ctx.call (hS:J3 w0 [] w (l++r)) (hG:J17 w0) (hX:Jh l sb S) (hT:Kx S) (hl:S.load<=1000000000000) (ws:List ByteArray) (hs:∀s∈ws,s.size<=1099511627776) (hf:ws.length<=1099511627776):
 Ctx w0 (w.alloc (J33 ws)) l ((w.heap.size,J33 ws)::r) sb S w.heap.size 0 ws where
 st:=(hS.alloc _).permR (J5 fun f=>by simp only[SC];omega)
 gl:=hG
 is:=hX
 tight:=hT
 load:=hl
 args:=.own (t:=9) (by simp) hs hf
theorem J3.letGo {p:Nat×Obj} (h:J3 w0 [] w (l++(p::r))):J3 w0 [] w (l++r):=
 h.pick (l2:=l++r) (m:=[p]) (J5 fun f=>by simp only[SC];omega)
theorem Joi: "*"++ "errors.errorString"= "*errors.errorString":=by decide
theorem Jur (u:TypeId) (h:Tryz.prog.typeName? 3 u=some "*errors.errorString"):u=325:=
 typeName_ptr_named (nm:= "errors.errorString") (by rw[Joi];kernel_rfl) (by kernel_rfl) (by decide) u (by rw[Joi];exact h)
theorem Jwj {W:World} {r1 r2 r3:List (String×DataW Unit)} (h1:laidMet Tryz.prog (("internal/strconv.uint64pow10",Rows.laid_internal_strconv_uint64pow10)::r1) W)
 (h2:laidMet Tryz.prog (("strconv.ErrRange",Rows.laid_strconv_ErrRange)::r2) W) (h3:laidMet Tryz.prog (("strconv.ErrSyntax",Rows.laid_strconv_ErrSyntax)::r3) W):J17 W:=by
  obtain⟨a1,s1,hv1,_⟩:=laid_sentinel (g:=5) (ti:=144) (tp:=325) (te:=327) (ts:=9) h3 (by kernel_rfl) (by kernel_rfl) Tryz.underlying144 Jur Tryz.underlying325 Tryz.underlying327 rfl rfl Tryz.underlying9 (by kernel_rfl) (by kernel_rfl)
  obtain⟨a2,s2,hv2,_⟩:=laid_sentinel (g:=6) (ti:=144) (tp:=325) (te:=327) (ts:=9) h2 (by kernel_rfl) (by kernel_rfl) Tryz.underlying144 Jur Tryz.underlying325 Tryz.underlying327 rfl rfl Tryz.underlying9 (by kernel_rfl) (by kernel_rfl)
  exact⟨⟨_,_,hv1⟩,⟨_,_,hv2⟩,Lib.tabIs_of_head (g:=7) (t:=322) (by kernel_rfl) (by kernel_rfl) Tryz.underlying322 Tryz.underlying90 (by kernel_rfl) (by kernel_rfl) h1⟩
theorem Jww:ownKnob Tryz.prog.godebug=none:=by kernel_rfl
theorem J3.start (W:World):J3 W [] W []:=⟨rfl,rfl,Nat.le_refl _,⟨fun p hp=>by simp at hp,by simp[keys]⟩,fun _ _ _=>rfl,fun b hb=>.inl hb⟩
theorem J3.kept {W W':World} (h:J3 W [] W' []) (may:MemPlace->Prop):W.keptBut W' may:=by
 refine⟨h.os,h.output,fun i hi=>?_⟩
 rw[h.same i hi (by simp[keys])]
 split<;>simp_all
def usc (x hi lo s:Nat):Nat:=
 if x*hi/2 ^64/2 ^s*2 ^s≠x*hi/2 ^64 then x*hi/2 ^64/2 ^s|||1
 else((x*hi/2 ^64+2 ^64 - b2 (decide (x*hi%2 ^64<x*lo/2 ^64)))%2 ^64)/2 ^s|||b2 (decide (1<(x*hi%2 ^64+2 ^64 - x*lo/2 ^64)%2 ^64))
def J3m (w0:World) (r:Hp) (v:Value) (e:Ending) (w':World):Prop:=e= .returned v/\J3 w0 [] w' r
theorem Jzj (s:Nat) (h:s<64):bits .and .i64 (s:Int) 63=s:=by
 have:∀n:Fin 64,bits .and .i64 ((n:Nat):Int) 63=((n:Nat):Int):=by decide
 exact this ⟨s,h⟩
theorem Joc (b:Bool):b2 b<=1:=by cases b<;>decide
theorem Jpe {b hi lo s:Nat} (hS:J3 w0 [] w ((b,J1y hi lo s)::r)) (x:Nat) (hx:x<2 ^64) (hhi:hi<2 ^64) (hlo:lo<2 ^64) (hs:s<64):
 Calls Tryz.prog 283 #[.int .u64 x,ptr b] w (J3m w0 ((b,J1y hi lo s)::r) (.int .u64 (usc x hi lo s:Nat))):=by
 have hO:=hS.own;have hfin:=hid (show ∀n,J3 w0 [] (w.drewN n) ((b,J1y hi lo s)::r) from fun n=>hS.drewN n)
 have hfin0:=hid hS;have d0:=J2 hO.head 0;have d1:=J2 hO.head 1;have d2:=J2 hO.head 2;clear hO hS;have hm1:=Tryz.bits_Mul64 x hi (by simpa using hx) (by simpa using hhi) w
 have hm2:=Tryz.bits_Mul64 x lo (by simpa using hx) (by simpa using hlo) w
 obtain⟨h,hh⟩:∃h,h=x*hi/2 ^64:=⟨_,rfl⟩
 obtain⟨m,hm⟩:∃m,m=x*hi%2 ^64:=⟨_,rfl⟩
 obtain⟨m2,hm2'⟩:∃m2,m2=x*lo/2 ^64:=⟨_,rfl⟩
 have b1:h<18446744073709551616:=by rw[hh,Nat.div_lt_iff_lt_mul (by decide)];exact Nat.mul_lt_mul'' hx hhi
 have b2':m<18446744073709551616:=by rw[hm];exact Nat.mod_lt _ (by decide)
 have b3:m2<18446744073709551616:=by rw[hm2',Nat.div_lt_iff_lt_mul (by decide)];exact Nat.mul_lt_mul'' hx hlo
 have e:usc x hi lo s=if h/2 ^s*2 ^s≠h then h/2 ^s|||1 else((h+2 ^64 - b2 (decide (m<m2)))%2 ^64)/2 ^s|||b2 (decide (1<(m+2 ^64 - m2)%2 ^64)):=by
  unfold usc;rw[<-hh,<-hm,<-hm2']
 replace e:=hid e;have q1:x*hi/18446744073709551616=h:=hh.symm;have q2:x*hi%18446744073709551616=m:=hm.symm;have q3:x*lo/18446744073709551616=m2:=hm2'.symm;rw[q1,q2] at hm1;rw[q3] at hm2;clear q1 q2 q3 hh hm hm2';replace hm1:=hid hm1;replace hm2:=hid hm2;have hms:bits .and .i64 (s:Int) 63=s:=Jzj s hs;have hpow:((2:Int) ^s)=((2 ^s:Nat):Int):=by simp
 have hle:h/2 ^s*2 ^s<=h:=Nat.div_mul_le_self h (2 ^s)
 have hmul:IntKind.u64.wrap ((h:Int)/2 ^s*2 ^s)=((h/2 ^s*2 ^s:Nat):Int):=by
  rw[hpow,show(h:Int)/((2 ^s:Nat):Int)*((2 ^s:Nat):Int)=((h/2 ^s*2 ^s:Nat):Int) by simp,IntKind.wrap_u64]
  omega
 have hdiv:(h:Int)/2 ^s=((h/2 ^s:Nat):Int):=by rw[hpow];simp
 have hdl:h/2 ^s<18446744073709551616:=Nat.lt_of_le_of_lt (Nat.div_le_self _ _) b1;by_cases hc:h/2 ^s*2 ^s=h
 ·have ht:(IntKind.u64.wrap ((h:Int)/2 ^s*2 ^s) !=(h:Int))=false:=by rw[hmul,hc];simp
  have er:=e.out;rw[if_neg (by simp[hc])] at er
  have hb5:=J8n (decide (m<m2))
  have hsub:IntKind.u64.wrap ((h:Int) - (b2 (decide (m<m2)):Int))=(((h+2 ^64 - b2 (decide (m<m2)))%2 ^64:Nat):Int):=by
   have:=Joc (decide (m<m2))
   rw[IntKind.wrap_u64];omega
  have hsub2:IntKind.u64.wrap ((m:Int) - (m2:Int))=(((m+2 ^64 - m2)%2 ^64:Nat):Int):=by
   rw[IntKind.wrap_u64];omega
  have hor:=bits_or_u64_nat ((h+2 ^64 - b2 (decide (m<m2)))%2 ^64/2 ^s) (b2 (decide (1<(m+2 ^64 - m2)%2 ^64))) (Nat.lt_of_le_of_lt (Nat.div_le_self _ _) (Nat.mod_lt _ (by decide))) (by have:=Joc (decide (1<(m+2 ^64 - m2)%2 ^64));omega)
  rw[<-er] at hor;clear hle hmul hc;generalize hH:(h+2 ^64 - b2 (decide (m<m2)))%2 ^64=H at *;generalize hM:(m+2 ^64 - m2)%2 ^64=M at *;have hHb:H<18446744073709551616:=by rw[<-hH];exact Nat.mod_lt _ (by decide)
  have hMb:M<18446744073709551616:=by rw[<-hM];exact Nat.mod_lt _ (by decide)
  have hb6:=J8n (decide (1<M));have hdivH:(H:Int)/2 ^s=((H/2 ^s:Nat):Int):=by rw[hpow];simp
  replace er:=hid er;replace hor:=hid hor;clear hH hM e hpow hdiv hdl;generalize usc x hi lo s=u at *;go_enter Tryz.func283,Tryz.ntmps283;go_wp2_with fail;refine hm1.out.mono ?_;rintro en w' ⟨rfl,rfl⟩;go_wp2_with fail;refine hm2.out.mono ?_;rintro en w' ⟨rfl,rfl⟩;go_wp2_with fail;refine(hb5 _).mono ?_
  rintro en w' ⟨rfl,rfl⟩;go_wp2_with fail;replace hdivH:=hid hdivH;go_quiet ((go_at_call 259;exact Calls.quiet_of_same (J8n _ _)));go_wp2_with fail;go_ret
  have hdec:decide ((1:Int)<(M:Int))=decide (1<M):=by
   rw[Bool.eq_iff_iff];simp only[decide_eq_true_eq];omega
  rw[hdec,hdivH.out,hor.out];exact⟨rfl,hfin.out _⟩
 ·have ht:(IntKind.u64.wrap ((h:Int)/2 ^s*2 ^s) !=(h:Int))=true:=by
   rw[hmul];simp only[bne_iff_ne,ne_eq];omega
  have er:=e.out;rw[if_pos hc] at er;have hor:=bits_or_u64_nat (h/2 ^s) 1 hdl (by decide)
  rw[<-er] at hor;replace er:=hid er;replace hor:=hid hor;replace hdiv:=hid hdiv;clear hle hmul hc hpow hm2 e;generalize usc x hi lo s=u at *;go_enter Tryz.func283,Tryz.ntmps283;go_wp2_with fail;refine hm1.out.mono ?_;rintro en w' ⟨rfl,rfl⟩;go_wp2_with fail;go_ret;rw[hdiv.out,show bits .or .u64 ((h/2 ^s:Nat):Int) 1=(u:Int) from hor.out];exact⟨rfl,hfin0.out⟩
structure Jz9 (s:ByteArray) (cl:List Nat):Prop where
 size:s.size=cl.length
 at_:∀(k c:Nat) (h:k<s.size),cl[k]? =some c->s[k].toNat=48+c
 ten:∀d∈cl,d<10
 few:cl.length<=100
def Jze (w:World) (v:Value) (e:Ending) (w':World):Prop:=e= .returned v/\∃m,w'=w.drewN m
theorem Jn2 {b:Nat} {cs:Array Value} {ds cl:List Nat} {s:ByteArray} (hC:Jz9 s cl) (hD:J1o cs 0 ds) (hl:ds.length<=800) (ht:∀d∈ds,d<10) (hS:J3 w0 [] w ((b,J13 cs)::r)):
 Calls Tryz.prog 304 #[.slice (some ⟨b,0,none⟩) ds.length 800,.string s] w (Jze w (.bool (J1r ds cl))):=by
 obtain⟨T,hT⟩:∃T,T=J1r ds cl:=⟨_,rfl⟩
 rw[<-hT];replace hT:=hid hT;obtain⟨n,hn⟩:∃n,ds.length=n:=⟨_,rfl⟩
 rw[hn] at hl⊢;replace hn:=hid hn;obtain⟨m,hm⟩:∃m,cl.length=m:=⟨_,rfl⟩
 have hm8:=hC.few;have hsz:=hC.size;rw[hm] at hm8 hsz;replace hm:=hid hm;replace hC:=hid hC;replace hD:=hid hD;replace hS:=hid hS;replace ht:=hid ht;go_enter Tryz.func304,Tryz.ntmps304;go_wp2_with fail;go_loopw [5] (fun i wr=>∃k:Nat,i= .int .i64 k/\k<=m/\k<=n/\Hid (J1r (ds.drop k) (cl.drop k)=T)/\Hid (∃q,wr=w.drewN q)) (fun i _=>m - (intOf i).toNat)
 case atStart=>exact⟨0,rfl,by omega,by omega,hid (by rw[List.drop_zero,List.drop_zero];exact hT.out.symm),hid ⟨0,rfl⟩⟩
 case round=>
  obtain⟨k,rfl,hk,hkn,hL,hq⟩:=hrel
  have hS1:Hid (J3 w0 [] wr ((b,J13 cs)::r)):=by obtain⟨q,rfl⟩:=hq.out;exact hid (hS.out.drewN q)
  have hq2:∀n,∃q,wr.drewN n=w.drewN q:=fun n=>by obtain⟨q,rfl⟩:=hq.out;exact⟨_,World.drewN_drewN _ _ _⟩
  replace hq2:=hid hq2;by_cases hkm:k<m
  ·obtain⟨c,hc⟩:∃c,cl[k]? =some c:=⟨_,List.getElem?_eq_getElem (by rw[hm.out];omega)⟩
   have hs:k<s.size:=by omega
   have hsc:=hC.out.at_ k c hs hc;generalize hx:s[k]=x at hsc;have hk1:(k:Int)<(m:Int):=by omega
   have hcd:cl.drop k=c::cl.drop (k+1):=by
    have h2:=List.drop_eq_getElem_cons (l:=cl) (i:=k) (by rw[hm.out];omega)
    rw[List.getElem?_eq_getElem (by rw[hm.out];omega)] at hc
    rw[h2,Option.some.inj hc]
   rcases Nat.lt_or_ge k n with hkn2|hkn2
   ·obtain⟨d,hd⟩:∃d,ds[k]? =some d:=⟨_,List.getElem?_eq_getElem (by rw[hn.out];omega)⟩
    have cd:=hD.out.cell hS1.out hd;rw[Nat.zero_add] at cd
    have hdd:ds.drop k=d::ds.drop (k+1):=by
     have h2:=List.drop_eq_getElem_cons (l:=ds) (i:=k) (by rw[hn.out];omega)
     rw[List.getElem?_eq_getElem (by rw[hn.out];omega)] at hd
     rw[h2,Option.some.inj hd]
    have hL2:=hL.out;rw[hcd,hdd,J1r] at hL2;obtain⟨u,hu⟩:∃u,u=48+d:=⟨_,rfl⟩
    have cd2:wr.cell? ⟨b,k,none⟩=some (.int .u8 (u:Int)):=by rw[hu];exact cd
    have hk2:¬(n:Int)<=(k:Int):=by omega
    have hk3:(k:Int)<(n:Int):=by omega
    have hk4:¬n<=k:=by omega
    clear cd hcd hdd hc hd;by_cases he:d=c
    ·rw[if_pos he] at hL2
     have t1:((u:Int) !=(x.toNat:Int))=false:=by simp;omega
     have t2:(u !=x.toNat)=false:=by simp;omega
     replace hsc:=hid hsc;replace hu:=hid hu;replace he:=hid he;replace hL2:=hid hL2;clear hL;go_wp2_with fail;go_quiet (fail);go_wp2_with fail;go_roundw
     case rel=>exact⟨k+1,by go_num,by omega,by omega,hL2,hid (hq2.out nq)⟩
     case measure=>simp[intOf];omega
    ·rw[if_neg he] at hL2
     have t1:((u:Int) !=(x.toNat:Int))=true:=by simp;omega
     have t2:(u !=x.toNat)=true:=by simp;omega
     have t3:decide (d<c)=decide (u<x.toNat):=by rw[decide_eq_decide];omega
     rw[t3] at hL2;replace hsc:=hid hsc;replace hu:=hid hu;replace he:=hid he;replace hL2:=hid hL2;clear hL t3;go_wp2_with fail;go_quiet (fail);go_wp2_with fail;go_quiet (fail);go_wp2_with fail;go_ret;rw[<-hL2.out];exact⟨rfl,by rw[World.drewN_drewN];exact hq2.out _⟩
   ·have hk2:(n:Int)<=(k:Int):=by omega
    have hdd:ds.drop k=[]:=List.drop_eq_nil_of_le (by rw[hn.out];omega)
    have hL2:=hL.out;rw[hcd,hdd,J1r] at hL2;replace hL2:=hid hL2;replace hsc:=hid hsc;clear hL hcd hdd hc;go_wp2_with fail;go_ret;rw[<-hL2.out];exact⟨rfl,hq.out⟩
  ·have hcd:cl.drop k=[]:=List.drop_eq_nil_of_le (by rw[hm.out];omega)
   have hL2:=hL.out;rw[hcd] at hL2;have hL3:T=false:=by rw[<-hL2];cases (ds.drop k)<;>rfl
   have hk1:¬(k:Int)<(m:Int):=by omega
   replace hL3:=hid hL3;clear hL hcd hL2;go_wp2_with fail;go_ret;rw[hL3.out];exact⟨rfl,hq.out⟩
end Go.Proofs.YtncbcaabanoeoaaGreatDoor
