/-
texts: set.
-/
import Derived.Deep.CutBlock
import Derived.Test.YtefjbegnlolgbaaGreatDoorQ20
set_option linter.unusedVariables false
set_option linter.unusedSimpArgs false
set_option maxRecDepth 100000
set_option maxHeartbeats 8000000
namespace Go.Proofs.YtefjbegnlolgbaaGreatDoor
open Go Go.RowKit
variable {w0 w:World}{l r R:Hp}{sb g off:Nat}{S:St}{ws:List ByteArray}{c:ByteArray}
theorem J6t (now n unit:Int):(K0 now n unit).2=0\/(K0 now n unit).2=111:=by
 unfold K0;split
 ·exact .inr rfl
 ·split
  ·exact .inr rfl
  ·split
   ·exact .inr rfl
   ·exact .inl rfl
theorem Jb8 (now n unit:Int):(K0 now n unit).1<=4611686018427387904:=by
 unfold K0;split
 ·simp
 ·split
  ·simp
  ·split
   ·simp
   ·rename_i h;simp only;omega
theorem Je0 (now:Int) (l:List ByteArray):(J26 now l).2=0\/(¬(J26 now l).2=0/\J0u (J26 now l).2):=by
 unfold J26 J0u;split
 ·split
  ·right;simp
  ·split
   ·left;rfl
   ·split
    ·right;simp
    ·split
     ·right;simp
     ·rename_i x _ _
      rcases J6t now x (Jf l K2).1.unit with h|h
      ·left;exact h
      ·right;simp only[h];simp
 ·right;simp
theorem Jf6 (now:Int) (l:List ByteArray):(J26 now l).1.when_<=4611686018427387904:=by
 unfold J26;split
 ·split
  ·simp[Kt]
  ·split
   ·simp[Kt]
   ·split
    ·simp[Kt]
    ·split
     ·simp[Kt]
     ·exact Jb8 _ _ _
 ·simp[Kt]
def Jjn (S:St) (now:Int) (key s:ByteArray) (o:Opt):St×Lf:=
 if o.get=true/\(J2c (S.look key now)).kind=2 then(S.due key now,J2c (S.look key now)) else
 if((o.nx&&(S.look key now).isSome)||(o.xx&&!(S.look key now).isSome))=true then(S.due key now,if o.get then J2c (S.look key now) else J4g) else
 if(S.due key now).putE key (J9 s)=0 then
  (if o.ends then(((S.due key now).putG key (J9 s) o.keep now).due key now).expire key o.when_ now else(S.due key now).putG key (J9 s) o.keep now,if o.get then J2c (S.look key now) else J9c)
 else((S.due key now).putG key (J9 s) o.keep now,J10 ((S.due key now).putE key (J9 s)))
def J8b (S:St) (now:Int) (key s:ByteArray) (l:List ByteArray):St×Lf:=
 if(J26 now l).2=0 then Jjn S now key s (J26 now l).1 else(S,J10 (J26 now l).2)
theorem Jc1 {k m:ByteArray} (h:Ctx w0 w l r sb S g off (k::m::ws)) (now:Int) (hnow:0<=now/\now<=4611686018427387904) (cap:Nat) (hcap:(k::m::ws).length<=cap) (hcap2:cap<=9223372036854775807):
 Calls Tryz.prog 91 #[J46 sb now g off (k::m::ws).length cap] w (Jw w0 r sb (J8b S now k m ws).1 (K4 (J8b S now k m ws).2)):=by
 have H:=(h.alloc (J1e sb now g off (k::m::ws).length cap)).alloc J5;generalize hT:J8b S now k m ws=T;clear h;obtain⟨n,hlen⟩:∃n,(k::m::ws).length=n:=⟨_,rfl⟩
 have hn2:1<n:=by rw[<-hlen];simp only[List.length_cons];omega
 have hn3:(1:Int)<(n:Int):=by omega
 have hn4:0<n:=by omega
 rw[hlen] at H hcap⊢;replace hlen:=hid hlen;replace hT:=hid hT;replace H:=hid H;go_enter Tryz.func91,Tryz.ntmps91;unfold J46;go_upto_region 1 with fail;generalize hw1:(w.alloc _).alloc _=w1;replace H:Ctx w0 w1 _ _ _ _ _ _ _:=hw1▸H.out;clear hw1;simp only[World.size_alloc] at H;generalize w.heap.size=b at H⊢;have hjob:=hid (Ctx.job (A:=[(b+1,J5)]) H);obtain⟨R,hR⟩:∃R,R=[(b+1,J5)]++(b,J1e sb now g off n cap)::r:=⟨_,rfl⟩
 rw[<-hR] at hjob;replace H:Ctx w0 w1 l R sb S g off (k::m::ws):=hR▸H
 have hend:Hid (∀(w':World) (l3 X:Hp) (a':Lf),J1 w0 [] w' (l3++(X++R))->J1 w0 [] _ (l3++r)):=hid fun w' l3 X a' h=>((h.permR (l2:=(b+1,J5)::(l3++r++(X++[(b,J1e sb now g off n cap)]))) (J2 fun f=>by
  rw[hR];simp only[SC];omega)).setLf a').less (List.sublist_append_left _ _)
 have hres:(b+1,J5)∈R:=by rw[hR];simp
 obtain⟨j0,j1,j2⟩:=hjob.out.at_ w1 ⟨l,H.st⟩
 have hopt:Calls Tryz.prog 144 #[J46 sb now g off n cap] w1 (Jfd w0 (l++R) (J26 now ws)):=by
  have:=Jdn H now hnow cap (by rw[hlen.out];exact hcap) hcap2
  rw[hlen.out] at this;exact this
 unfold J46 at hopt;have hknown:=Je0 now ws;have hwhen:=Jf6 now ws;have hTT:Hid (T=if(J26 now ws).2=0 then Jjn S now k m (J26 now ws).1 else(S,J10 (J26 now ws).2)):=hid hT.out.symm
 clear hT hR;generalize J26 now ws=p at hopt hknown hwhen hTT;obtain⟨o0,code⟩:=p
 simp only at hknown hTT hwhen
 replace hopt:=hid hopt;replace H:=hid H;rcases hknown with rfl|⟨hne,hkn⟩
 ·rw[if_pos rfl] at hTT
  go_wp2_with fail;refine hopt.out.mono ?_;rintro e w2 ⟨o,rfl,ho,S2⟩;simp only at ho
  obtain rfl:o=o0:=ho trivial;clear hopt ho j0 j1 j2;unfold Ku;obtain⟨nx,xx,get,keep,ends,wh⟩:=o
  simp only at hwhen⊢
  go_upto_region 4 with fail;have S3:=S2.alloc (Jr ⟨nx,xx,get,keep,ends,wh⟩);generalize hw3:w2.alloc _=w3;replace S3:J1 w0 [] w3 _:=hw3▸S3;clear hw3 S2;generalize w2.heap.size=ob at S3⊢;have H3:=hid (H.out.at (r':=(ob,Jr ⟨nx,xx,get,keep,ends,wh⟩)::R) (x:=[(ob,Jr ⟨nx,xx,get,keep,ends,wh⟩)]) rfl (S3.permR (J2 fun f=>by simp only[SC];omega)))
  have hx3:InX w0 R w3:=⟨(ob,Jr ⟨nx,xx,get,keep,ends,wh⟩)::l,S3⟩;obtain⟨j0,j1,j2⟩:=hjob.out.at_ w3 hx3
  have ja:w3.cell? ⟨g,off,none⟩=some (.string k):=hjob.out.arg w3 hx3 0 k rfl;have hpeek:=hid (H3.out.peek k (by simp) now [] H3.out.st)
  have hpd:Hid (∀(w':World) (l2 x:Hp),Je l2 sb (S.due k now)->J1 w0 [] w' (l2++(x++R))->Ctx w0 w' l2 (x++R) sb (S.due k now) g off (k::m::ws)):=hid fun w' l2 x h1 h2=>H.out.peeked k now h1 h2
  clear S3 hx3 H H3;obtain⟨kd,hkd⟩:∃kd,kd=((S.look k now).getD Jt).kind:=⟨_,rfl⟩
  obtain⟨tx,htx⟩:∃tx,tx=((S.look k now).getD Jt).text:=⟨_,rfl⟩
  obtain⟨is,his⟩:∃is,is=(S.look k now).isSome:=⟨_,rfl⟩
  rw[<-hkd,<-htx,<-his] at hpeek;have htold:∀(w':World) (L:Hp) (v:Value),Hid (J1 w0 [] w' L->_):=fun w' L v=>hid fun hw=>Je5 hw (S.look k now) v
  obtain⟨a,ha⟩:∃a,a=J2c (S.look k now):=⟨_,rfl⟩
  rw[<-ha,<-hkd,<-htx,<-his] at htold;unfold K4 J3 at htold;unfold Jjn at hTT;rw[<-ha,<-his] at hTT;simp only at hTT
  clear hkd htx his ha;go_wp2_with fail;refine hpeek.out.mono ?_;rintro e w4 ⟨va,vn,vc,vl,l2,rfl,hat,hX,S4,_⟩;clear hpeek j0 j1 j2 ja hat;go_upto_region 6 with fail;have S5:=S4.out.alloc (J06 kd tx (.slice va vn vc));generalize hw5:w4.alloc _=w5;replace S5:J1 w0 [] w5 _:=hw5▸S5;clear hw5 S4;generalize w4.heap.size=itb at S5⊢;have hok:=hid (Jcc S5);clear S5;go_wp2_with fail;refine hok.out.mono ?_;rintro e w6 ⟨rfl,S6⟩;clear hok;unfold J3;go_upto_region 7 with fail;have S7:=S6.alloc (J24 J9c);generalize hw7:w6.alloc _=w7;replace S7:J1 w0 [] w7 _:=hw7▸S7;clear hw7 S6;generalize w6.heap.size=ab at S7⊢;obtain⟨q0,q1,q2,q3,q4,q5⟩:=J38 (S7.own.at_ (ob,Jr ⟨nx,xx,get,keep,ends,wh⟩) (by simp))
  go_upto_if 34 with fail
  have S8:=S7.permR (l2:=(ab,J24 J9c)::(l2++([(ob,Jr ⟨nx,xx,get,keep,ends,wh⟩)]++R)++((itb,J06 kd tx (.slice va vn vc))::vl))) (J2 fun f=>by
   simp only[SC];omega)
  obtain⟨x0,x1,x2,_⟩:=J04 (S7.own.at_ (itb,J06 kd tx (.slice va vn vc)) (by simp))
  have hne8:¬ab=b+1/\¬b+1=ab:=by
   have hnd:=S7.own.nd;rw[J0v,List.nodup_cons] at hnd
   have:¬ab=b+1:=fun e=>hnd.1 (by
    rw[e];exact List.mem_map.2 ⟨(b+1,J5),List.mem_cons_of_mem _ (List.mem_append_right _ (List.mem_append_right _ (List.mem_append_right _ (List.mem_cons_of_mem _ hres)))),rfl⟩)
   exact⟨this,fun e=>this e.symm⟩
  obtain⟨hne8a,hne8b⟩:=hne8
  replace S8:=hid S8;clear S7;go_cut [8] (fun s8 wx=>s8= .pointer (some ⟨ab,0,none⟩)/\Hid (get=true->¬a.kind=2)/\Hid (J1 w0 [] wx ((ab,J24 (if get then a else J9c))::(l2++([(ob,Jr ⟨nx,xx,get,keep,ends,wh⟩)]++R)++((itb,J06 kd tx (.slice va vn vc))::vl)))))
  case first=>
   cases get with
   |false=>
    clear htold q0 q1 q2 q3 q4 q5 x0 x1 x2;go_wp2_with fail;go_meet
    exact⟨rfl,hid (fun h=>by cases h),S8⟩
   |true=>
    have hto:=hid ((htold _ _ (.slice va vn vc)).out S8.out);clear htold q0 q1 q2 q3 q4 q5;go_wp2_with fail;refine hto.out.mono ?_;rintro e w8 ⟨rfl,S9⟩;obtain⟨⟨c0,hc0⟩,⟨c1,hc1⟩,⟨c2,hc2⟩,⟨c3,hc3⟩,⟨c4,hc4⟩,⟨c5,hc5⟩,fz,hlt⟩:=Jl S9.own.head
    have S10:J1 w0 [] _ ((ab,J24 a)::(l2++([(ob,Jr ⟨nx,xx,true,keep,ends,wh⟩)]++R)++((itb,J06 kd tx (.slice va vn vc))::vl))):=S9.setLf' a;clear x0 x1 x2 hto S8;go_upto_region 9 with fail;generalize hw9:(((((w8.setCell _ _).setCell _ _).setCell _ _).setCell _ _).setCell _ _).setCell _ _=w9;replace S10:J1 w0 [] w9 _:=hw9▸S10;clear hw9 hc0 hc1 hc2 hc3 hc4 hc5 fz hlt S9;obtain⟨a0,a1,a2,a3,a4,a5⟩:=Jku S10.own.head
    by_cases ha2:a.kind=2
    ·have hz:Hid (T=(S.due k now,a)):=hid (by rw[hTT.out];simp only[ha2,and_self,if_true])
     have ha2b:(a.kind==2)=true:=by rw[ha2];rfl
     have S11:=hid (hend.out _ l2 ([(ab,J24 a),(ob,Jr ⟨nx,xx,true,keep,ends,wh⟩)]++((itb,J06 kd tx (.slice va vn vc))::vl)) a (S10.permR (J2 fun f=>by
      simp only[SC];omega)))
     obtain⟨⟨d0,hd0⟩,⟨d1,hd1⟩,⟨d2,hd2⟩,⟨d3,hd3⟩,⟨d4,hd4⟩,⟨d5,hd5⟩,fz2,hlt2⟩:=Jl (S10.own.at_ (b+1,J5) (by simp[hres]))
     clear S10 hTT ha2;go_wp2_with fail;refine bodyPost_ret (v:=K4 a) (by simp[results,Tryz.results91,go_sem,J3,K4, *]<;>rfl) rfl ?_
     rw[hz.out];exact⟨rfl,l2,hX.out,S11.out⟩
    ·have ha2b:(a.kind==2)=false:=by simpa using ha2
     replace S10:=hid S10;replace ha2:=hid ha2;go_wp2_with fail;go_meet
     exact⟨rfl,hid (fun _=>ha2.out),S10⟩
  case rest=>
   obtain⟨rfl,hg,S9⟩:=hcut
   clear S8 htold x0 x1 x2 hne8a hne8b;obtain⟨A,hA⟩:∃A,A=if get then a else J9c:=⟨_,rfl⟩
   rw[<-hA] at S9;obtain⟨RR,hRR⟩:∃RR:Hp,RR=([(ab,J24 A),(ob,Jr ⟨nx,xx,get,keep,ends,wh⟩)]++((itb,J06 kd tx (.slice va vn vc))::vl))++R:=⟨_,rfl⟩
   have S10:J1 w0 [] wc (l2++RR):=S9.out.permR (J2 fun f=>by
    rw[hRR];simp only[SC];omega)
   have H2:=hid (hpd.out wc l2 ([(ab,J24 A),(ob,Jr ⟨nx,xx,get,keep,ends,wh⟩)]++((itb,J06 kd tx (.slice va vn vc))::vl)) hX.out (by rw[<-hRR];exact S10))
   rw[<-hRR] at H2
   have hTT2:Hid (T=if((nx&&is)||(xx&&!is))=true then(S.due k now,if get then a else J4g) else
    if(S.due k now).putE k (J9 m)=0 then
    (if ends then(((S.due k now).putG k (J9 m) keep now).due k now).expire k wh now else(S.due k now).putG k (J9 m) keep now,A)
    else((S.due k now).putG k (J9 m) keep now,J10 ((S.due k now).putE k (J9 m)))):=hid (by
    rw[hTT.out,if_neg (fun h=>hg.out h.1 h.2),hA])
   have hinx:∀(w':World) (l3:Hp),J1 w0 [] w' (l3++RR)->InX w0 R w':=fun w' l3 h=>h.inX (l3++([(ab,J24 A),(ob,Jr ⟨nx,xx,get,keep,ends,wh⟩)]++((itb,J06 kd tx (.slice va vn vc))::vl))) (List.Perm.of_eq (by rw[hRR];simp only[List.append_assoc]))
   have hfin:Hid (∀(w':World) (l3:Hp) (a':Lf),J1 w0 [] w' (l3++RR)->J1 w0 [] _ (l3++r)):=hid fun w' l3 a' h=>hend.out w' l3 ([(ab,J24 A),(ob,Jr ⟨nx,xx,get,keep,ends,wh⟩)]++((itb,J06 kd tx (.slice va vn vc))::vl)) a' (by rw[hRR,List.append_assoc] at h;exact h)
   have hmo:(ob,Jr ⟨nx,xx,get,keep,ends,wh⟩)∈RR:=by rw[hRR];simp
   have hma:(ab,J24 A)∈RR:=by rw[hRR];simp
   have hmr:(b+1,J5)∈RR:=by rw[hRR];simp[hres]
   have hall:Hid (∀(w':World) (l3:Hp),J1 w0 [] w' (l3++RR)->Jfb w' b sb now g off n cap/\Jll w' ob ⟨nx,xx,get,keep,ends,wh⟩/\Jmy w' ab A/\w'.cell? ⟨g,off,none⟩=some (.string k)/\w'.cell? ⟨g,off+1,none⟩=some (.string m)):=hid fun w' l3 h=>
    ⟨hjob.out.at_ w' (hinx w' l3 h),J38 (h.own.at_ _ (List.mem_append_right _ hmo)),Jku (h.own.at_ _ (List.mem_append_right _ hma)),hjob.out.arg w' (hinx w' l3 h) 0 k rfl,hjob.out.arg w' (hinx w' l3 h) 1 m rfl⟩
   have hzr:∀(w':World) (l3:Hp),Hid (J1 w0 [] w' (l3++RR)->w'.heap[b+1]? =some J5):=fun w' l3=>hid fun h=>h.own.at_ _ (List.mem_append_right _ hmr)
   clear S9 hTT hinx hpd hmo hma hmr hend hRR hjob;obtain⟨_,⟨q0,q1,q2,q3,q4,q5⟩,⟨a0,a1,a2,a3,a4,a5⟩,_⟩:=hall.out wc l2 S10
   replace S10:=hid S10;go_upto_region 11 with fail;go_cut [54] (fun c wx=>c= .bool ((nx&&is)||(xx&&!is))/\wx=wc)
   case first=>
    cases nx<;>cases xx<;>cases is<;>(go_wp2_with fail;go_meet;exact⟨rfl,rfl⟩)
   case rest=>
    obtain⟨rfl,rfl⟩:=hcut
    generalize hbb:((nx&&is)||(xx&&!is))=bb at hTT2⊢
    clear hbb;cases bb with
    |true=>
     replace hTT2:Hid (T=(S.due k now,if get then a else J4g)):=hTT2
     clear hall;cases get with
     |false=>
      have hz:Hid (T=(S.due k now,J4g)):=hTT2;have hnil:=hid (Jea S10.out);clear q0 q1 q3 q4 q5 a0 a1 a2 a3 a4 a5 hTT2 hA;unfold J3 at hnil;go_wp2_with fail;refine hnil.out.mono ?_;rintro e w8 ⟨rfl,S11⟩;obtain⟨⟨d0,hd0⟩,⟨d1,hd1⟩,⟨d2,hd2⟩,⟨d3,hd3⟩,⟨d4,hd4⟩,⟨d5,hd5⟩,fz2,hlt2⟩:=Jl ((hzr _ _).out S11)
      have S12:=hid (hfin.out _ l2 J4g S11);clear hnil S11 S10 hfin hzr q2;go_wp2_with fail;refine bodyPost_ret (v:=K4 J4g) (by simp[results,Tryz.results91,go_sem,J3,K4,J4g, *]<;>rfl) rfl ?_
      rw[hz.out];exact⟨rfl,l2,hX.out,S12.out⟩
     |true=>
      have hz:Hid (T=(S.due k now,a)):=hTT2;obtain rfl:A=a:=hA;obtain⟨⟨d0,hd0⟩,⟨d1,hd1⟩,⟨d2,hd2⟩,⟨d3,hd3⟩,⟨d4,hd4⟩,⟨d5,hd5⟩,fz2,hlt2⟩:=Jl ((hzr _ _).out S10.out)
      have S12:=hid (hfin.out _ l2 A S10.out);clear q0 q1 q3 q4 q5 hTT2 S10 hfin hzr;go_wp2_with fail;refine bodyPost_ret (v:=K4 A) (by simp[results,Tryz.results91,go_sem,J3,K4, *]<;>rfl) rfl ?_
      rw[hz.out];exact⟨rfl,l2,hX.out,S12.out⟩
    |false=>
     replace hTT2:Hid (T=if(S.due k now).putE k (J9 m)=0 then
      (if ends then(((S.due k now).putG k (J9 m) keep now).due k now).expire k wh now else(S.due k now).putG k (J9 m) keep now,A)
      else((S.due k now).putG k (J9 m) keep now,J10 ((S.due k now).putE k (J9 m)))):=hTT2
     clear q0 q1 q2 q3 q4 q5 a0 a1 a2 a3 a4 a5 hA hg;have j0:∀p:InW w0 [] (l2++RR),p.w.cell? ⟨b,0,none⟩=some (ptr sb):=fun p=>((hall.out p.w l2 p.h).1).c0
     have j1:∀p:InW w0 [] (l2++RR),p.w.cell? ⟨b,1,none⟩=some (.int .i64 now):=fun p=>((hall.out p.w l2 p.h).1).c1
     have j2:∀p:InW w0 [] (l2++RR),p.w.cell? ⟨b,2,none⟩=some (.slice (some ⟨g,off,none⟩) n cap):=fun p=>((hall.out p.w l2 p.h).1).c2
     have ja:∀p:InW w0 [] (l2++RR),p.w.cell? ⟨g,off+1,none⟩=some (.string m):=fun p=>(hall.out p.w l2 p.h).2.2.2.2
     have jk:∀p:InW w0 [] (l2++RR),p.w.cell? ⟨ob,3,none⟩=some (.bool keep):=fun p=>((hall.out p.w l2 p.h).2.1).c3
     go_upto_region 15 with fail;refine Jx 12 S10.out (by kernel_rfl) (by kernel_rfl) (fun hne=>?_)
     simp only[List.take_succ_cons,List.take_zero,List.drop_succ_cons,List.drop_zero];repeat (go_big_quiet_step ((go_at_call 146;refine Calls.inw (Jhi (InW.h _) m))))
     refine J17 fun w5 S11=>?_
     clear j0 j1 j2 ja jk hne S10;have hput:=hid (Jji (l:=l2) (il:=[]) (r:=RR) (it:=J9 m) S11 H2.out.gl H2.out.is H2.out.tight (by have:=H2.out.ev;omega) k (H2.out.args.small k (by simp)) (J8h.text m) keep now)
     have hknown:=Jex (S.due k now) k (J9 m);have hput2:=Jgw H2.out.fit H2.out.tight k m keep now;have hsmall:=H2.out.args.small k (by simp)
     have hev:Hid (((S.due k now).putG k (J9 m) keep now).ev.length<=2199023255552):=hid (by
      have h1:=hput2.2.2;have h2:=H2.out.load;unfold St.load at h1 h2;omega)
     have hgl:=hid H2.out.gl;clear S11 H2 hput2;generalize (S.due k now).putE k (J9 m)=pe at hput hknown hTT2;generalize (S.due k now).putG k (J9 m) keep now=pg at hput hTT2 hev;simp only[J8,J9,List.nil_append] at hput;unfold J8;go_wp2_with fail;refine hput.out.mono ?_;rintro e w6 ⟨rfl,l3,hX3,S12⟩;replace hX3:=hid hX3;clear hput;rcases hknown with rfl|⟨hne,hkn⟩
     ·replace hTT2:Hid (T=(if ends then(pg.due k now).expire k wh now else pg,A)):=hid (by rw[hTT2.out,if_pos rfl])
      obtain⟨⟨j0,j1,j2⟩,⟨q0,q1,q2,q3,q4,q5⟩,⟨a0,a1,a2,a3,a4,a5⟩,_⟩:=hall.out _ _ S12
      cases ends with
      |false=>
       have hz:Hid (T=(pg,A)):=hTT2;obtain⟨⟨d0,hd0⟩,⟨d1,hd1⟩,⟨d2,hd2⟩,⟨d3,hd3⟩,⟨d4,hd4⟩,⟨d5,hd5⟩,fz2,hlt2⟩:=Jl ((hzr _ _).out S12)
       have S13:=hid (hfin.out _ l3 A S12);clear q0 q1 q2 q3 q5 j0 j1 j2 hTT2 S12 hfin hzr hall;go_wp2_with fail;refine bodyPost_ret (v:=K4 A) (by simp[results,Tryz.results91,go_sem,J3,K4, *]<;>rfl) rfl ?_
       rw[hz.out];exact⟨rfl,l3,hX3.out,S13.out⟩
      |true=>
       have hz:Hid (T=((pg.due k now).expire k wh now,A)):=hTT2;have hexp:=hid (J92 S12 hgl.out hX3.out hev.out k hsmall wh now hnow.1 (by omega))
       replace S12:=hid S12;clear q0 q1 q2 q3 a0 a1 a2 a3 a4 a5 hTT2;generalize (pg.due k now).expire k wh now=pq at hexp hz;generalize (J7 (pg.due k now).L k).isSome=pb at hexp;go_wp2_with fail;refine hexp.out.mono ?_;rintro e w7 ⟨rfl,l4,hX4,S13⟩;obtain⟨_,_,⟨a0,a1,a2,a3,a4,a5⟩,_⟩:=hall.out _ _ S13
       obtain⟨⟨d0,hd0⟩,⟨d1,hd1⟩,⟨d2,hd2⟩,⟨d3,hd3⟩,⟨d4,hd4⟩,⟨d5,hd5⟩,fz2,hlt2⟩:=Jl ((hzr _ _).out S13)
       have S14:=hid (hfin.out _ l4 A S13);clear j0 j1 j2 q4 q5 hexp S12 S13 hfin hzr hall;replace hX4:=hid hX4;go_wp2_with fail;refine bodyPost_ret (v:=K4 A) (by simp[results,Tryz.results91,go_sem,J3,K4, *]<;>rfl) rfl ?_
       rw[hz.out];exact⟨rfl,l4,hX4.out,S14.out⟩
     ·have hz:Hid (T=(pg,J10 pe)):=hid (by rw[hTT2.out,if_neg hne])
      have herr:=hid (J7d S12 pe hkn);have hpb:(pe==0)=false:=by simpa using hne
      clear S12 hkn hne hTT2;unfold J10 at hz;generalize Jo pe=te at herr hz;unfold J3 at herr;go_wp2_with fail;refine herr.out.mono ?_;rintro e1 w7 ⟨rfl,S13⟩;obtain⟨⟨d0,hd0⟩,⟨d1,hd1⟩,⟨d2,hd2⟩,⟨d3,hd3⟩,⟨d4,hd4⟩,⟨d5,hd5⟩,fz2,hlt2⟩:=Jl ((hzr _ _).out S13)
      have S14:=hid (hfin.out _ l3 ⟨2,te,0⟩ S13);clear herr S13 hfin hzr hall;go_wp2_with fail;refine bodyPost_ret (v:=K4 ⟨2,te,0⟩) (by simp[results,Tryz.results91,go_sem,J3,K4, *]<;>rfl) rfl ?_
      rw[hz.out];exact⟨rfl,l3,hX3.out,S14.out⟩
 ·have hz:Hid (T=(S,J10 code)):=hid (by rw[hTT.out,if_neg hne])
  clear hTT;go_wp2_with fail;refine hopt.out.mono ?_;rintro e w2 ⟨o,rfl,_,S2⟩;clear hopt j0 j1 j2;unfold Ku;go_upto_region 2 with fail;have S3:=S2.alloc (Jr o);generalize hw3:w2.alloc _=w3;replace S3:J1 w0 [] w3 _:=hw3▸S3;clear hw3 S2;generalize w2.heap.size=ob at S3⊢;have herr:=hid (J7d S3 code hkn);have hcb:(code==0)=false:=by simpa using hne
  unfold J10 at hz;generalize Jo code=te at herr hz;clear S3 hkn hne;go_wp2_with fail;refine herr.out.mono ?_;rintro e1 w4 ⟨rfl,S5⟩;have S6:=hid (hend.out w4 l [(ob,Jr o)] ⟨2,te,0⟩ (S5.permR (J2 fun f=>by simp only[SC];omega)))
  obtain⟨⟨c0,hc0⟩,⟨c1,hc1⟩,⟨c2,hc2⟩,⟨c3,hc3⟩,⟨c4,hc4⟩,⟨c5,hc5⟩,fz,hlt⟩:=Jl (S5.own.at_ _ (List.mem_cons_of_mem _ (List.mem_append_right _ hres)))
  clear herr S5 hend;unfold J3;go_wp2_with fail;refine bodyPost_ret (v:=K4 ⟨2,te,0⟩) (by simp[results,Tryz.results91,go_sem,J3,K4, *]<;>rfl) rfl ?_
  rw[hz.out];exact⟨rfl,l,H.out.is,S6.out⟩
def Jhq (w0:World) (r:Hp) (sb:Nat) (S:St) (a:Lf) (e:Ending) (w':World):Prop:=e= .returned (.tuple #[K4 a,.bool true])/\∃l',Je l' sb S/\J1 w0 [] w' (l'++r)
abbrev J07 (s:Sp):Obj:=.cells #[.string s.name,.int .i64 s.kind,.int .i64 s.least,.int .i64 s.most,.int .i64 s.first,.int .i64 s.last,.int .i64 s.step] 53 (0,0)
theorem Ctx.tail (h:Ctx w0 w l r sb S g off (c::ws)):Ctx w0 w l r sb S g (off+1) ws:=
 ⟨h.st,h.gl,h.is,h.tight,h.load,h.args.drop 1⟩
def J7y:Sp:=⟨⟨#[71,69,84]⟩,1,2,2,1,1,1⟩
def Jje:Sp:=⟨⟨#[83,69,84]⟩,2,3,64,1,1,1⟩
def Jdx:Sp:=⟨⟨#[73,78,67,82,66,89]⟩,2,3,3,1,1,1⟩
def Jdw:Sp:=⟨⟨#[65,80,80,69,78,68]⟩,2,3,3,1,1,1⟩
def Jdy:Sp:=⟨⟨#[83,84,82,76,69,78]⟩,1,2,2,1,1,1⟩
abbrev J7j (ws:List ByteArray):Obj:=.cells (ws.map Value.string).toArray 9 (0,0)
theorem Ctx.call (hS:J1 w0 [] w (l++r)) (hG:J1q w0) (hX:Je l sb S) (hT:J00 S) (hl:S.load<=1000000000000) (ws:List ByteArray) (hs:∀s∈ws,s.size<=1099511627776) (hf:ws.length<=1099511627776):
 Ctx w0 (w.alloc (J7j ws)) l ((w.heap.size,J7j ws)::r) sb S w.heap.size 0 ws where
 st:=(hS.alloc _).permR (J2 fun f=>by simp only[SC];omega)
 gl:=hG
 is:=hX
 tight:=hT
 load:=hl
 args:=.own (t:=9) (by simp) hs hf
theorem J1.letGo {p:Nat×Obj} (h:J1 w0 [] w (l++(p::r))):J1 w0 [] w (l++r):=
 h.pick (l2:=l++r) (m:=[p]) (J2 fun f=>by simp only[SC];omega)
theorem J1.keepLf (h:J1 w0 [] w (l++r)) (o:Obj):J1 w0 [] (w.alloc o) (l++((w.heap.size,o)::r)):=
 (h.alloc o).permR (J2 fun f=>by simp only[SC];omega)
theorem InX.get (h:Hid (InX w0 R w)) {p:Nat×Obj} (hp:p∈R):w.heap[p.1]? =some p.2:=by
 obtain⟨x,hx⟩:=h.out
 exact hx.own.right.at_ p hp
theorem J2j {mb:Nat} {o:Obj} {m:AL Value} (h:J1 w0 [] w ((mb,o)::r)) (hm:Kz o m) (hn:(m.map Prod.fst).Nodup) (key:ByteArray) (v:Value):
 ∃w' o',(Instr.mapUpdate 189 (.map (some mb)) (.string key) v).run Tryz.prog w= .ok () w'/\Kz o' (J22 m key v)/\((J22 m key v).map Prod.fst).Nodup/\J1 w0 [] w' ((mb,o')::r):=by
 obtain⟨o',hup,hm'⟩:=J6n (P:=Tryz.prog) (t:=189) Tryz.underlying189 Tryz.underlying9 h.own.head hm hn key v
 exact⟨_,o',hup,hm',J5h hn,h.obj rfl⟩
abbrev fv (f:FuncId):Value:=.func (.func f) #[] #[]
def Jnm:ByteArray:=⟨#[72,83,69,84]⟩
def Jk0:ByteArray:=⟨#[72,73,78,67,82,66,89]⟩
def Jmp:ByteArray:=⟨#[72,77,71,69,84]⟩
def Jjz:ByteArray:=⟨#[72,71,69,84,65,76,76]⟩
def Jnj:ByteArray:=⟨#[72,68,69,76]⟩
def Jnk:ByteArray:=⟨#[72,71,69,84]⟩
def Jnl:ByteArray:=⟨#[72,76,69,78]⟩
def Jjy:ByteArray:=⟨#[72,69,88,73,83,84,83]⟩
def J5d:AL Value:=(J22 (J22 (J22 (J22 (J22 (J22 (J22 (J22 [] Jnm (fv 156)) Jk0 (fv 157)) Jmp (fv 158)) Jjz (fv 159)) Jnj (fv 160)) Jnk (fv 161)) Jnl (fv 163)) Jjy (fv 164))
theorem Jcz (hS:J1 w0 [] w r):
 Calls Tryz.prog 101 #[] w (fun e w'=>∃mb o,e= .returned (.map (some mb))/\Kz o J5d/\J1 w0 [] w' ((mb,o)::r)):=by
 have hmm:=@run_makeMap Tryz.prog;have S0:=hS.alloc (.map #[] 0);clear hS;obtain⟨w1,o1,u1,m1,n1,S1⟩:=J2j S0 Kz.empty (by simp) ⟨#[72,83,69,84]⟩ (fv 156)
 obtain⟨w2,o2,u2,m2,n2,S2⟩:=J2j S1 m1 n1 ⟨#[72,73,78,67,82,66,89]⟩ (fv 157)
 obtain⟨w3,o3,u3,m3,n3,S3⟩:=J2j S2 m2 n2 ⟨#[72,77,71,69,84]⟩ (fv 158)
 obtain⟨w4,o4,u4,m4,n4,S4⟩:=J2j S3 m3 n3 ⟨#[72,71,69,84,65,76,76]⟩ (fv 159)
 obtain⟨w5,o5,u5,m5,n5,S5⟩:=J2j S4 m4 n4 ⟨#[72,68,69,76]⟩ (fv 160)
 obtain⟨w6,o6,u6,m6,n6,S6⟩:=J2j S5 m5 n5 ⟨#[72,71,69,84]⟩ (fv 161)
 obtain⟨w7,o7,u7,m7,n7,S7⟩:=J2j S6 m6 n6 ⟨#[72,76,69,78]⟩ (fv 163)
 obtain⟨w8,o8,u8,m8,n8,S8⟩:=J2j S7 m7 n7 ⟨#[72,69,88,73,83,84,83]⟩ (fv 164)
 have hend:Hid (Kz o8 J5d):=hid m8;replace S8:=hid S8;clear m1 m2 m3 m4 m5 m6 m7 m8 n1 n2 n3 n4 n5 n6 n7 n8 S0 S1 S2 S3 S4 S5 S6 S7;unfold fv at u1 u2 u3 u4 u5 u6 u7 u8;go_enter Tryz.func101,Tryz.ntmps101;go_wp2_with fail;go_ret;exact⟨_,o8,rfl,hend.out,S8.out⟩
def Jee (w0:World) (R:Hp) (sb:Nat) (S:St) (kind:Int) (text:ByteArray) (n:Int) (xs:List Lf) (e:Ending) (w':World):Prop:=
 ∃a c vl l',e= .returned (J3 kind text n (.slice a xs.length c))/\J3n (.slice a xs.length c) xs vl/\Je l' sb S/\J1 w0 [] w' (l'++(vl++R))
def Jlu (w0:World) (R:Hp) (sb:Nat) (S:St) (kind:Int) (text:ByteArray) (n:Int) (xs:List Lf) (e:Ending) (w':World):Prop:=
 ∃a c vl l',e= .returned (.tuple #[J3 kind text n (.slice a xs.length c),.bool true])/\J3n (.slice a xs.length c) xs vl/\Je l' sb S/\J1 w0 [] w' (l'++(vl++R))
theorem Jee.leaf {a:Lf} {e:Ending} {w':World} (h:Jw w0 R sb S (K4 a) e w'):Jee w0 R sb S a.kind a.text a.n [] e w':=by
 obtain⟨rfl,l',h1,h2⟩:=h
 exact⟨none,0,[],l',rfl,.nil,h1,h2⟩
abbrev J1b (kd:Int) (tx:ByteArray) (nn:Int) (lv:Value):Obj:=.cells #[.int .i64 kd,.string tx,.int .i64 nn,.float .f64 0,.bool false,lv] 29 (0,0)
theorem J1.setVal {b:Nat} {o0 o1 o2 o3 o4 o5:Value} {t:TypeId} (h:J1 w0 l w ((b,.cells #[o0,o1,o2,o3,o4,o5] t (0,0))::r)) (kd:Int) (tx:ByteArray) (nn:Int) (lv:Value):
 J1 w0 l ((((((w.setCell ⟨b,0,none⟩ (.int .i64 kd)).setCell ⟨b,1,none⟩ (.string tx)).setCell ⟨b,2,none⟩ (.int .i64 nn)).setCell ⟨b,3,none⟩ (.float .f64 0)).setCell ⟨b,4,none⟩ (.bool false)).setCell ⟨b,5,none⟩ lv) ((b,.cells #[.int .i64 kd,.string tx,.int .i64 nn,.float .f64 0,.bool false,lv] t (0,0))::r):=by
 have k:=(((((h.set 0 (.int .i64 kd)).set 1 (.string tx)).set 2 (.int .i64 nn)).set 3 (.float .f64 0)).set 4 (.bool false)).set 5 lv;rw[set6] at k;exact k
structure Res where
 st:St
 kd:Int
 tx:ByteArray
 nn:Int
 xs:List Lf
def J6m (p:St×Lf):Res:=⟨p.1,p.2.kind,p.2.text,p.2.n,[]⟩
def Jbb (w0:World) (R:Hp) (sb:Nat) (P:Res->Prop) (e:Ending) (w':World):Prop:=∃o:Res,P o/\Jlu w0 R sb o.st o.kd o.tx o.nn o.xs e w'
def J1v (w0:World) (R:Hp) (sb:Nat) (P:Res->Prop) (e:Ending) (w':World):Prop:=∃o:Res,P o/\Jee w0 R sb o.st o.kd o.tx o.nn o.xs e w'
theorem J1v.leaf {P:Res->Prop} {p:St×Lf} (hP:P (J6m p)) {e:Ending} {w':World} (h:Jw w0 R sb p.1 (K4 p.2) e w'):J1v w0 R sb P e w':=⟨_,hP,Jee.leaf h⟩
def Jc7:List (List UInt8×FuncId×(Value->Array Value)):=
 [([83,69,84],91,fun j=>#[j]),([83,69,84,78,88],92,fun j=>#[j]),([71,69,84,83,69,84],93,fun j=>#[j,.bool false]),([71,69,84,68,69,76],93,fun j=>#[j,.bool true]),([77,71,69,84],94,fun j=>#[j]),([77,83,69,84],95,fun j=>#[j]),
   ([73,78,67,82],96,fun j=>#[j,.int .i64 1]),([68,69,67,82],96,fun j=>#[j,.int .i64 (-1)]),([73,78,67,82,66,89],97,fun j=>#[j,.bool false]),([68,69,67,82,66,89],97,fun j=>#[j,.bool true]),([73,78,67,82,66,89,70,76,79,65,84],98,fun j=>#[j]),
   ([65,80,80,69,78,68],99,fun j=>#[j]),([83,84,82,76,69,78],100,fun j=>#[j])]
theorem Jm0 {P:Res->Prop} {k:ByteArray} (h:Ctx w0 w l r sb S g off (c::k::ws)) (sp:Sp) (hc:J0k (c::k::ws)=(sp,ByteArray.empty)) (now:Int) (cap:Nat) (hcap:(c::k::ws).length<=cap) (hcap2:cap<=9223372036854775807)
 (hjob:(∃f av,(sp.name.toList,f,av)∈Jc7/\∀(w':World) (x:Hp),Ctx w0 w' l (x++r) sb S g (off+1) (k::ws)->Calls Tryz.prog f (av (J46 sb now g (off+1) (k::ws).length (cap - 1))) w' (J1v w0 (x++r) sb P))\/sp.name.toList=[71,69,84]/\P (J6m (Jha S now k))):
  Calls Tryz.prog 59 #[ptr sb,.int .i64 now,.slice (some ⟨g,off,none⟩) (c::k::ws).length cap] w (Jbb w0 r sb P):=by
  have H:=h.alloc J5;have hchk:=J1f H.st (H.args.more (x:=l)) cap;rw[hc] at hchk;clear hc;unfold J18 Sp.val Jy at hchk;simp only at hchk
  have hx:∀(w':World) (x:Hp),J1 w0 [] w' (l++(x++r))->Ctx w0 w' l (x++r) sb S g (off+1) (k::ws):=fun w' x hS=>(h.at (x:=x) rfl hS).tail
  obtain⟨n,hlen⟩:∃n,(c::k::ws).length=n:=⟨_,rfl⟩
  have hlen1:(k::ws).length=n - 1:=by rw[<-hlen];simp only[List.length_cons];omega
  have hn:1<n:=by rw[<-hlen];simp only[List.length_cons];omega
  rw[hlen] at hchk hcap⊢;rw[hlen1] at hjob;have hc1:¬cap - 1=0:=by omega
  have hn3:(1:Int)<(n:Int):=by omega
  have hn4:0<n:=by omega
  replace hlen:=hid hlen;replace hlen1:=hid hlen1;replace hchk:=hid hchk;replace hx:=hid hx;replace hjob:=hid hjob;clear h H;go_enter Tryz.func59,Tryz.ntmps59;go_wp2_with fail;refine hchk.out.mono ?_;rintro e w2 ⟨rfl,S2⟩;clear hchk;go_upto_region 2 with fail;have S3:J1 w0 [] _ ((_,J07 sp)::_):=S2.alloc (.cells #[.string sp.name,.int .i64 sp.kind,.int .i64 sp.least,.int .i64 sp.most,.int .i64 sp.first,.int .i64 sp.last,.int .i64 sp.step] 53);generalize hw3:w2.alloc _=w3;replace S3:J1 w0 [] w3 _:=hw3▸S3;clear hw3 S2;generalize w2.heap.size=b1 at S3⊢;generalize w.heap.size=b at S3⊢;have nm:=J0 S3.own.head 0;simp only[List.getElem?_toArray,List.getElem?_cons_zero] at nm;go_upto_region 5 with fail;have S4:=S3.alloc (J1e sb now g (off+1) (n - 1) (cap - 1));generalize hw4:w3.alloc _=w4;replace S4:J1 w0 [] w4 _:=hw4▸S4;clear hw4 S3 nm;generalize w3.heap.size=b2 at S4⊢;have nm:=J0 S4.own.tail.head 0;simp only[List.getElem?_toArray,List.getElem?_cons_zero] at nm;obtain⟨j0,j1,j2⟩:=Jij S4.own.head
  obtain⟨X,hX⟩:∃X:Hp,X=[(b2,J1e sb now g (off+1) (n - 1) (cap - 1)),(b1,J07 sp),(b,J5)]:=⟨_,rfl⟩
  have S5:J1 w0 [] w4 (l++(X++r)):=S4.permR (J2 fun f=>by
   rw[hX];simp only[SC];omega)
  have hend:Hid (∀(w':World) (l3 xl:Hp),J1 w0 [] w' (l3++(xl++(X++r)))->J1 w0 [] w' ((b,J5)::(l3++(xl++r)++[(b2,J1e sb now g (off+1) (n - 1) (cap - 1)),(b1,J07 sp)]))):=hid fun w' l3 xl h=>h.permR (J2 fun f=>by
   rw[hX];simp only[SC];omega)
  clear S4;replace hX:=hid hX;have hjob:=hjob.out;rcases hjob with⟨f,av,hm,hjob⟩|⟨hnm,hP⟩
  ·replace hjob:=hid hjob
   simp only[Jc7,List.mem_cons,Prod.mk.injEq,List.not_mem_nil,or_false] at hm;rcases hm with⟨hnm,rfl,rfl⟩|⟨hnm,rfl,rfl⟩|⟨hnm,rfl,rfl⟩|⟨hnm,rfl,rfl⟩|⟨hnm,rfl,rfl⟩|⟨hnm,rfl,rfl⟩|⟨hnm,rfl,rfl⟩|⟨hnm,rfl,rfl⟩|⟨hnm,rfl,rfl⟩|⟨hnm,rfl,rfl⟩|⟨hnm,rfl,rfl⟩|⟨hnm,rfl,rfl⟩|⟨hnm,rfl,rfl⟩
   all_goals
    have hj:=hjob.out w4 X (hx.out w4 X S5);unfold J46 at hj;dsimp only at hj
    replace hj:=hid hj;clear S5 hx hjob;go_wp2_with fail;refine hj.out.mono ?_;rintro e w5 ⟨⟨T,kd,tx,nn,xs⟩,hP,la,lc,xl,l5,rfl,hxl,hX5,S6⟩;simp only at hxl hX5 S6
    have S7:=hend.out w5 l5 xl S6;obtain⟨⟨c0,hc0⟩,⟨c1,hc1⟩,⟨c2,hc2⟩,⟨c3,hc3⟩,⟨c4,hc4⟩,⟨c5,hc5⟩,fz,hlt⟩:=Jl S7.own.head
    obtain⟨m,hm⟩:∃m,m=xs.length:=⟨_,rfl⟩
    rw[<-hm] at hxl⊢;have S9:=hid (((S7.setVal kd tx nn (.slice la m lc)).less (List.sublist_cons_self _ _)).less (List.sublist_append_left _ _));replace hP:=hid hP;replace hX5:=hid hX5;replace hxl:=hid hxl;replace hm:=hid hm;clear hj S6 S7 hend;unfold J3;go_wp2_with fail;refine bodyPost_ret (v:=.tuple #[J3 kd tx nn (.slice la m lc),.bool true]) (by simp[results,Tryz.results59,go_sem,J3, *]<;>rfl) rfl ?_
    refine⟨⟨T,kd,tx,nn,xs⟩,hP.out,la,lc,xl,l5,?_,?_,hX5.out,S9.out⟩
    ·simp only;rw[hm.out]
    ·simp only;rw[<-hm.out];exact hxl.out
  ·obtain⟨R,hR⟩:∃R:Hp,R=[(b2,J1e sb now g (off+1) (n - 1) (cap - 1)),(b1,J07 sp)]++r:=⟨_,rfl⟩
   have H:=hx.out w4 [(b2,J1e sb now g (off+1) (n - 1) (cap - 1)),(b1,J07 sp)] (S5.pick (m:=[(b,J5)]) (J2 fun f=>by
    rw[hX.out];simp only[SC];omega))
   rw[<-hR] at H
   have S6:J1 w0 [] w4 ([(b,J5)]++(l++R)):=S5.permR (J2 fun f=>by
    rw[hR,hX.out];simp only[SC];omega)
   have hget:∀(w':World) (x:Hp),Hid (J1 w0 [] w' (x++(l++R))->_):=fun w' x=>hid fun hw=>H.get k (by simp) now x hw
   have htold:∀(w':World) (L:Hp) (v:Value),Hid (J1 w0 [] w' L->_):=fun w' L v=>hid fun hw=>Je5 hw (S.look k now) v
   have hs1:Hid (J1 w0 [] w4.drew ([(b,J5)]++(l++R))):=hid S6.drew;have hx1:Hid (InX w0 R w4.drew):=hid ⟨[(b,J5)]++l,by rw[List.append_assoc];exact S6.drew⟩
   have hkeep:Hid (∀w':World,Hid (InX w0 R w')->w'.cell? ⟨b2,0,none⟩=some (ptr sb)/\w'.cell? ⟨g,off+1,none⟩=some (.string k)/\Hid (InX w0 R w')):=hid fun w' hw=>by
    obtain⟨x,hw2⟩:=hw.out
    exact⟨J0 (hw2.own.right.at_ (b2,J1e sb now g (off+1) (n - 1) (cap - 1)) (by rw[hR];simp)) 0,H.args.at_ w' x hw2 0 k rfl,hw⟩
   replace hP:P (J6m (S.get k now,J2c (S.look k now))):=hP;generalize J2c (S.look k now)=a at htold hP;generalize ((S.look k now).getD Jt).kind=kd at hget htold;generalize ((S.look k now).getD Jt).text=tx at hget htold;generalize (S.look k now).isSome=is at hget htold;generalize ((S.look k now).getD Jt).fs=fs at hget;unfold K4 J3 at htold
   have hend:Hid (∀(w':World) (l3 vl:Hp),J1 w0 [] w' (l3++(vl++R))->J1 w0 [] w' (l3++r)):=hid fun w' l3 vl h=>h.pick (m:=vl++[(b2,J1e sb now g (off+1) (n - 1) (cap - 1)),(b1,J07 sp)]) (J2 fun f=>by
    rw[hR];simp only[SC];omega)
   replace hP:=hid hP;clear hx hlen1 H S5 S6 hR hX;go_upto_region 7 with fail
   go_region_held3 (fun w'=>w'.cell? ⟨b2,0,none⟩=some (ptr sb)/\w'.cell? ⟨g,off+1,none⟩=some (.string k)/\Hid (InX w0 R w'))
    (first|(with_reducible exact hkeep.out _ hx1)|(with_reducible exact hkeep.out _ (hset.out _ _ _ _ _ _))|(with_reducible exact hkeep.out _ (by assumption))|(fail "keep"))
    (first|(go_at_call 90;refine((hget _ _).out hs1.out).mono ?_;rintro e w5 ⟨va,vn,vc,vl,l2,rfl,hat,hX2,S2,hx2⟩)|(go_at_call 89;refine((htold _ _ _).out S2.out).mono ?_;rintro e w6 ⟨rfl,S3⟩;obtain⟨⟨c0,hc0⟩,⟨c1,hc1⟩,⟨c2,hc2⟩,⟨c3,hc3⟩,⟨c4,hc4⟩,⟨c5,hc5⟩,fz,hlt⟩:=Jl S3.own.head;have hset:Hid (∀v0 v1 v2 v3 v4 v5,_):=hid fun v0 v1 v2 v3 v4 v5=>InX.set6 (A:=l2++vl) (R:=R) (by rw[List.append_assoc];exact S3) v0 v1 v2 v3 v4 v5;have hx3:Hid (InX w0 R w6):=hid (S3.inX ([_]++(l2++vl)) (by rw[List.append_assoc,List.append_assoc]));replace S3:=hid S3))
   all_goals (
    have S9:=hid (hend.out _ l2 vl (S3.out.setLf a));clear hend hget htold hs1 hx1 hkeep hset hx2 hx3 S2 S3;go_wp2_with fail;refine bodyPost_ret (v:=.tuple #[K4 a,.bool true]) (by simp[results,Tryz.results59,go_sem,K4,J3, *]<;>rfl) rfl ?_
    exact⟨_,hP.out,none,0,[],l2,rfl,.nil,hX2.out,S9.out⟩)
def Jbd (w0:World) (r:Hp) (e:Ending) (w':World):Prop:=e= .returned (.tuple #[J3 0 ByteArray.empty 0 (.slice none 0 0),.bool false])/\J1 w0 [] w' r
def Jb0:List (List UInt8):=[[71,69,84],[83,69,84],[83,69,84,78,88],[71,69,84,83,69,84],[71,69,84,68,69,76],[77,71,69,84],[77,83,69,84],[73,78,67,82],[68,69,67,82],[73,78,67,82,66,89],[68,69,67,82,66,89],[73,78,67,82,66,89,70,76,79,65,84],[65,80,80,69,78,68],[83,84,82,76,69,78]]
def J8j (sp:Sp):Bool:=Jb0.all fun x=>!(sp.name.toList==x)
theorem Jfv (h:Ctx w0 w l r sb S g off (c::ws)) (sp:Sp) (hc:J0k (c::ws)=(sp,ByteArray.empty)) (hm:J8j sp=true) (now:Int) (cap:Nat) (hcap:(c::ws).length<=cap) (hcap2:cap<=9223372036854775807):
 Calls Tryz.prog 59 #[ptr sb,.int .i64 now,.slice (some ⟨g,off,none⟩) (c::ws).length cap] w (Jbd w0 (l++r)):=by
 have H:=h.alloc J5;have hchk:=J1f H.st (H.args.more (x:=l)) cap;rw[hc] at hchk;clear hc;unfold J18 Sp.val Jy at hchk;simp only at hchk
 obtain⟨n,hlen⟩:∃n,(c::ws).length=n:=⟨_,rfl⟩
 have hn:0<n:=by rw[<-hlen];simp only[List.length_cons];omega
 rw[hlen] at hchk hcap⊢;have hn1:(1:Int)<=(n:Int):=by omega
 have hn2:(0:Int)<(n:Int):=by omega
 have hnc:1<=cap:=by omega
 have hnc2:(1:Int)<=(cap:Int):=by omega
 simp only[J8j,Jb0,List.all_cons,List.all_nil,Bool.and_true,Bool.and_eq_true,Bool.not_eq_true'] at hm;obtain⟨m1,m2,m3,m4,m5,m6,m7,m8,m9,m10,m11,m12,m13,m14⟩:=hm
 replace hlen:=hid hlen;replace hchk:=hid hchk;clear h H;by_cases hc1:cap - 1=0
 all_goals
  go_enter Tryz.func59,Tryz.ntmps59;go_wp2_with fail;refine hchk.out.mono ?_;rintro e w2 ⟨rfl,S2⟩;clear hchk;go_upto_region 2 with fail;have S3:=S2.alloc (.cells #[.string sp.name,.int .i64 sp.kind,.int .i64 sp.least,.int .i64 sp.most,.int .i64 sp.first,.int .i64 sp.last,.int .i64 sp.step] 53);generalize hw3:w2.alloc _=w3;replace S3:J1 w0 [] w3 _:=hw3▸S3;clear hw3 S2;generalize w2.heap.size=b1 at S3⊢;generalize w.heap.size=b at S3⊢;have nm:=J0 S3.own.head 0;simp only[List.getElem?_toArray,List.getElem?_cons_zero] at nm;replace S3:=hid S3;go_upto_region 5 with fail;have S4:=fun o=>S3.out.alloc o
  generalize hw4:w3.alloc _=w4;obtain⟨jo,S4⟩:∃jo,J1 w0 [] w4 ((w3.heap.size,jo)::_):=⟨_,hw4▸S4 _⟩
  clear hw4 S3 nm;generalize w3.heap.size=b2 at S4⊢;have nm:=J0 S4.own.tail.head 0;simp only[List.getElem?_toArray,List.getElem?_cons_zero] at nm
  have S5:J1 w0 [] w4 ((b,J5)::(l++r++[(b2,jo),(b1,.cells #[.string sp.name,.int .i64 sp.kind,.int .i64 sp.least,.int .i64 sp.most,.int .i64 sp.first,.int .i64 sp.last,.int .i64 sp.step] 53 (0,0))])):=S4.permR (J2 fun f=>by
   simp only[SC];omega)
  obtain⟨⟨c0,hc0⟩,⟨c1,hc1⟩,⟨c2,hc2⟩,⟨c3,hc3⟩,⟨c4,hc4⟩,⟨c5,hc5⟩,fz,hlt⟩:=Jl S5.own.head
  have S9:=hid ((((((((S5.set 0 (.int .i64 0)).set 1 (.string ByteArray.empty)).set 2 (.int .i64 0)).set 3 (.float .f64 0)).set 4 (.bool false)).set 5 (.slice none 0 0)).less (List.sublist_cons_self _ _)).less (List.sublist_append_left _ _));clear S4 S5;go_wp2_with fail;refine bodyPost_ret (v:=.tuple #[J3 0 ByteArray.empty 0 (.slice none 0 0),.bool false]) (by simp[results,Tryz.results59,go_sem,J3, *]<;>rfl) rfl ?_
  exact⟨rfl,S9.out⟩
end Go.Proofs.YtefjbegnlolgbaaGreatDoor
