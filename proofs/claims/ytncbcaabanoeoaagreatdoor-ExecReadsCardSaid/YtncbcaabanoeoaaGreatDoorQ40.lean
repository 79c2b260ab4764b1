/-
fields: job.add (HINCRBY), whatever the field and the number are.
-/
import Derived.Deep.CutBlock
import Derived.Deep.DeepCutAuto
import Derived.Deep.RegionHeld3
import Derived.Test.YtncbcaabanoeoaaGreatDoorQ22
import Derived.Test.YtncbcaabanoeoaaGreatDoorQ36
import Derived.Test.YtncbcaabanoeoaaGreatDoorQ39
set_option linter.unusedVariables false
set_option linter.unusedSimpArgs false
set_option maxRecDepth 100000
set_option maxHeartbeats 8000000
namespace Go.Proofs.YtncbcaabanoeoaaGreatDoor
open Go Go.RowKit
variable {w0 w:World}{r sl:Hp}{v:Value}{fs:Fs}
def Jji (fs:Fs) (name:ByteArray):Option Itm:=if has fs name then some (Ji (Jb5 fs name)) else none
def Jd5 (S:St) (now:Int) (key:ByteArray) (fs:Fs) (name:ByteArray) (q:Itm×Int×Int):St×Lf:=
 if q.2.2=0 then(if J5u fs name q.1.text then J7f S now key (J3c (fput fs name q.1.text)) q.2.1 else(S,Kt 94)) else(S,Kt q.2.2)
def J5q (S:St) (now:Int) (key:ByteArray) (fs:Fs) (name num:ByteArray):St×Lf:=
 match J2f num with
 |none=>(S,Kt 11)
 |some m=>Jd5 S now key fs name (J2p (Jji fs name) m)
theorem fend {w':World} {l L junk:Hp} {b:Nat} (h:J3 w0 [] w' L) (hp:L.Perm ((b,J4)::(l++r++junk))) (a:Lf):
 J3 w0 [] ((((((w'.setCell ⟨b,0,none⟩ (.int .i64 a.kind)).setCell ⟨b,1,none⟩ (.string a.text)).setCell ⟨b,2,none⟩ (.int .i64 a.n)).setCell ⟨b,3,none⟩ (.float .f64 0)).setCell ⟨b,4,none⟩ (.bool false)).setCell ⟨b,5,none⟩ (.slice none 0 0)) (l++r):=
 ((h.permR hp).setLf a).less (List.sublist_append_left _ _)
theorem Jsu {l:Hp} {sb:Nat} {S:St} {kind:Int} {text:ByteArray} (hk:(kind==1)=false) (hS:J3 w0 [] w (l++(sl++r))) (hG:J17 w0) (hX:Jh l sb S) (hT:Kx S) (hl:S.load<=1000000000000)
 (hat:Jj v fs sl) (hok:J4h fs) (name num:ByteArray) (key:ByteArray) (hks:key.size<=1099511627776) (hns:num.size<=1099511627776) (now:Int) {g off:Nat} {ws:List ByteArray} (ha:J2h w0 r g off (name::num::ws)) (cap n2:Nat) (hn2:2<=n2):
  Calls Tryz.prog 100 #[Kz sb kind text v now key (.slice (some ⟨g,off,none⟩) n2 cap)] w (Jp w0 r sb (J5q S now key fs name num).1 (Ja (J5q S now key fs name num).2)):=by
  have m1:1<n2:=by omega
  have m2:(1:Int)<(n2:Int):=by omega
  have m3:0<n2:=by omega
  have m5:(0:Int)<(n2:Int):=by omega
  clear hn2;obtain⟨va,vc,rfl⟩:=hat.shape
  obtain⟨nf,hnf⟩:∃nf,nf=fs.length:=⟨_,rfl⟩
  rw[<-hnf] at hat⊢;replace hnf:=hid hnf;have S1:=(hS.alloc (Jk sb kind text (.slice va nf vc) now key (.slice (some ⟨g,off,none⟩) n2 cap))).alloc J4;simp only[World.size_alloc] at S1;obtain⟨T,hTT⟩:∃T,T=J5q S now key fs name num:=⟨_,rfl⟩
  rw[<-hTT];have hr:=hok.1;have hB:=hok.2.1;obtain⟨tx,htx⟩:∃tx,tx=Jb5 fs name:=⟨_,rfl⟩
  obtain⟨hh,hhe⟩:∃hh,hh=has fs name:=⟨_,rfl⟩
  have hwr:∀it,Jji fs name=some it->J0e it:=fun it h=>by
   unfold Jji at h;split at h
   ·rename_i hhas
    cases h
    refine Jf0 ?_;obtain⟨f,hf,-,hg⟩:=J7z hhas
    rw[hg];exact(hok.2.2 f (List.mem_of_getElem? hf)).2
   ·cases h
  replace hwr:=hid hwr;replace htx:=hid htx;replace hhe:=hid hhe;replace hTT:=hid hTT;replace S1:=hid S1;replace hok:=hid hok;clear hS;go_enter Tryz.func100,Tryz.ntmps100;unfold Kz;go_upto_region 1 with fail;generalize hw1:(w.alloc _).alloc _=w1;replace S1:J3 w0 [] w1 _:=hw1▸S1.out;clear hw1;generalize w.heap.size=b at S1⊢;obtain⟨R,hRR⟩:∃R:Hp,R=[(b,Jk sb kind text (.slice va nf vc) now key (.slice (some ⟨g,off,none⟩) n2 cap)),(b+1,J4)]++r:=⟨_,rfl⟩
  have S2:J3 w0 [] w1 (l++(sl++R)):=S1.permR (J5 fun f=>by
   rw[hRR];simp only[SC];omega)
  have hjm:(b,Jk sb kind text (.slice va nf vc) now key (.slice (some ⟨g,off,none⟩) n2 cap))∈R:=by rw[hRR];simp
  have hag:J2h w0 R g off (name::num::ws):=by rw[hRR];exact ha.more
  have c6:=(J1n (S2.own.right.right.at_ _ hjm)).c6;have ca1:w1.cell? ⟨g,off+1,none⟩=some (.string num):=hag.at_ w1 (l++sl) (by rw[List.append_assoc];exact S2) 1 num rfl
  have hpar:=J2u S2 hG num hns;have hzm:(b+1,J4)∈R:=by rw[hRR];simp
  replace hag:=hid hag;replace hRR:=hid hRR;clear S1 S2;cases hm:J2f num with
  |none=>
   rw[hm] at hpar;have e1:J5w none=11:=rfl;rw[e1,Option.getD_none] at hpar;have hTe:Hid (T=(S,Kt 11)):=hid (by rw[hTT.out];unfold J5q;rw[hm])
   replace hpar:=hid hpar;clear hm e1 hag hwr;go_wp2_with fail;refine hpar.out.mono ?_;rintro e w2 ⟨rfl,S3⟩;have herr:=hid (J4v S3 11 (by unfold K2;omega))
   clear hpar c6 ca1 S3;unfold Kt at hTe;generalize Jx 11=te at herr hTe;go_wp2_with fail;refine herr.out.mono ?_;rintro e2 w3 ⟨rfl,S5⟩
   have S9:=hid (fend (b:=b+1) (l:=l) (r:=r) (junk:=sl++[(b,Jk sb kind text (.slice va nf vc) now key (.slice (some ⟨g,off,none⟩) n2 cap))]) S5 (J5 fun f=>by
    rw[hRR.out];simp only[SC];omega) ⟨2,te,0⟩)
   obtain⟨⟨c0,hc0⟩,⟨c1,hc1⟩,⟨c2,hc2⟩,⟨c3,hc3⟩,⟨c4,hc4⟩,⟨c5,hc5⟩,fz,hlt⟩:=Jl (S5.own.right.right.at_ _ hzm)
   clear herr S5 hzm hRR;unfold J7;go_wp2_with fail;refine bodyPost_ret (v:=Ja ⟨2,te,0⟩) (by simp[results,Tryz.results100,go_sem,J7,Ja, *]<;>rfl) rfl ?_
   rw[hTe.out];exact⟨rfl,l,hX,S9.out⟩
  |some m=>
   have hmb:=J3q hm;rw[hm] at hpar;have e1:J5w (some m)=0:=rfl;rw[e1,Option.getD_some] at hpar;have hTe:T=Jd5 S now key fs name (J2p (Jji fs name) m):=by rw[hTT.out];unfold J5q;rw[hm]
   replace hpar:=hid hpar;clear hm e1;go_wp2_with fail;refine hpar.out.mono ?_;rintro e w2 ⟨rfl,S3⟩;clear hpar c6 ca1;go_upto_region 5 with fail;have S4:=S3.alloc (Jb 0 ByteArray.empty (.slice none 0 0));generalize hw3:w2.alloc _=w3;replace S4:J3 w0 [] w3 _:=hw3▸S4;clear hw3 S3;generalize w2.heap.size=wb at S4⊢;obtain⟨L,hL⟩:∃L:Hp,L=l++(sl++((wb,Jb 0 ByteArray.empty (.slice none 0 0))::R)):=⟨_,rfl⟩
   have S5:J3 w0 [] w3 L:=S4.permR (J5 fun f=>by
    rw[hL];simp only[SC];omega)
   have hj2:(b,Jk sb kind text (.slice va nf vc) now key (.slice (some ⟨g,off,none⟩) n2 cap))∈L:=by rw[hL];simp[hjm]
   have j1:∀p:InW w0 [] L,p.w.cell? ⟨b,1,none⟩=some (.int .i64 kind):=fun p=>(J1n (p.h.own.at_ _ hj2)).c1
   have j2:∀p:InW w0 [] L,p.w.cell? ⟨b,2,none⟩=some (.string text):=fun p=>(J1n (p.h.own.at_ _ hj2)).c2
   have j3:∀p:InW w0 [] L,p.w.cell? ⟨b,3,none⟩=some (.slice va nf vc):=fun p=>(J1n (p.h.own.at_ _ hj2)).c3
   have j6:∀p:InW w0 [] L,p.w.cell? ⟨b,6,none⟩=some (.slice (some ⟨g,off,none⟩) n2 cap):=fun p=>(J1n (p.h.own.at_ _ hj2)).c6
   have hsplit:∀w',J3 w0 [] w' L->J3 w0 [] w' ((l++(sl++[(wb,Jb 0 ByteArray.empty (.slice none 0 0))]))++R):=fun w' h=>by
    rw[hL] at h;simpa using h
   have ja:∀p:InW w0 [] L,p.w.cell? ⟨g,off,none⟩=some (.string name):=fun p=>hag.out.at_ p.w _ (hsplit p.w p.h) 0 name rfl
   have hget:∀w',J3 w0 [] w' L->Calls Tryz.prog 163 #[J6 kind text (.slice va nf vc),.string name] w' (Kr w0 L (.tuple #[.string tx,.bool hh,.int .i64 0])):=fun w' h=>by
    have hp:L.Perm (sl++(l++((wb,Jb 0 ByteArray.empty (.slice none 0 0))::R))):=J5 fun f=>by
     rw[hL];simp only[SC];omega
    have hg:=Jol (text:=text) hk (h.permR hp) hat hr (by omega) name
    rw[<-hhe.out,<-htx.out] at hg;exact hg.mono fun _ _ ⟨he,hs⟩=>⟨he,hs.permR hp.symm⟩
   unfold J6 at hget;replace hget:=hid hget;replace S5:=hid S5;replace hL:=hid hL;clear S4 hsplit hj2;go_wp2_with fail;refine J1x S5.out (by kernel_rfl) (by kernel_rfl) (fun hne=>?_)
   repeat (go_big_quiet_step ((go_at_call 163;refine Calls.inw (hget.out _ (InW.h _)))))
   refine J73 fun w4 S6=>?_
   clear j1 j2 j3 j6 ja hne S5 hget
   have S7:J3 w0 [] w4 ((wb,Jb 0 ByteArray.empty (.slice none 0 0))::(l++(sl++R))):=S6.permR (J5 fun f=>by
    rw[hL.out];simp only[SC];omega)
   clear S6;obtain⟨o,ho⟩:∃o,o=Jji fs name:=⟨_,rfl⟩
   rw[<-ho] at hTe;have hwr2:=hid (show ∀it,o=some it->J0e it by rw[ho];exact hwr.out)
   obtain⟨kw,hkw⟩:∃kw,kw=(o.getD Jc).kind:=⟨_,rfl⟩
   obtain⟨xw,hxw⟩:∃xw,xw=(o.getD Jc).text:=⟨_,rfl⟩
   have hfs0:(o.getD Jc).fs=[]:=by rw[ho];unfold Jji;split<;>rfl
   have hsame:hh=false->kw=0/\xw=ByteArray.empty:=fun h=>by
    rw[hkw,hxw,ho];unfold Jji;rw[<-hhe.out,h];exact⟨rfl,rfl⟩
   have hthere:hh=true->kw=1/\xw=tx:=fun h=>by
    rw[hkw,hxw,ho];unfold Jji;rw[<-hhe.out,h,htx.out];exact⟨rfl,rfl⟩
   replace hsame:=hid hsame;replace hthere:=hid hthere;replace ho:=hid ho;replace hkw:=hid hkw;replace hxw:=hid hxw;replace hTe:=hid hTe;replace hfs0:=hid hfs0;replace S7:=hid S7;clear hwr;go_upto_if 36 with fail;go_cut [38] from 36 to 38 (fun _ wx=>Hid (J3 w0 [] wx ((wb,Jb kw xw (.slice none 0 0))::(l++(sl++R)))))
   case first=>
    obtain⟨z0,z1,z2,zf⟩:=Jn S7.out.own.head
    have zl:=Jf S7.out.own.head;cases hh with
    |true=>
     obtain⟨rfl,rfl⟩:=hthere.out rfl
     have S8:J3 w0 [] _ ((wb,Jb 1 xw (.slice none 0 0))::(l++(sl++R))):=((S7.out.set 0 (.int .i64 1)).set 1 (.string xw)).set 2 (.slice none 0 0);replace S8:=hid S8;clear S7;go_wp2_with fail;go_meet
     exact S8
    |false=>
     obtain⟨rfl,rfl⟩:=hsame.out rfl
     go_wp2_with fail;go_meet
     exact S7
   case rest=>
    clear S7;have S8:=hcut;clear hcut;have hat0:Jj (.slice none 0 0) (o.getD Jc).fs []:=by rw[hfs0.out];exact⟨.nil,fun _=>rfl⟩
    have hadd:=Jjs (il:=[]) (o:=o) S8.out hG hwr2.out hat0 m hmb;unfold J6 at hadd;rw[<-hkw.out,<-hxw.out] at hadd;have htext:=hid (J9l o m);have hknown:=hid (Jc0 o m);have i0:wc.cell? ⟨wb,0,none⟩=some (.int .i64 kw):=J2 S8.out.own.head 0;have i1:wc.cell? ⟨wb,1,none⟩=some (.string xw):=J2 S8.out.own.head 1;have i2:wc.cell? ⟨wb,2,none⟩=some (.slice none 0 0):=J2 S8.out.own.head 2;replace hadd:=hid hadd;clear S8 hwr2 hat0 hsame hthere;generalize J2p o m=q at hadd htext hknown hTe;obtain⟨nx,sm,code⟩:=q
    simp only at hadd htext hknown hTe
    go_wp2_with fail;refine hadd.out.mono ?_;rintro e w6 ⟨ua,un,uc,il2,rfl,hnil,S9⟩;clear hadd i0 i1 i2;replace hnil:=hid hnil;go_upto_region 9 with fail;have S10:=S9.alloc (Jb nx.kind nx.text (.slice ua un uc));generalize hw7:w6.alloc _=w7 at S10⊢;clear hw7 S9;generalize w6.heap.size=qb at S10⊢;rcases hknown.out with hc|⟨hne,hkn⟩
    rotate_left
    ·have hTc:Hid (T=(S,Kt code)):=hid (by rw[hTe.out];unfold Jd5;simp only;rw[if_neg hne])
     have herr:=hid (J4v S10 code hkn);have hc1:(code !=0)=true:=by simpa using hne
     unfold Kt at hTc;clear S10 hTe hknown htext hkn;generalize Jx code=te at herr hTc;replace hne:=hid hne;go_wp2_with fail;refine herr.out.mono ?_;rintro e2 w8 ⟨rfl,S5⟩
     have S11:=hid (fend (b:=b+1) (l:=l) (r:=r) (junk:=(qb,Jb nx.kind nx.text (.slice ua un uc))::(il2++(((wb,Jb kw xw (.slice none 0 0))::sl)++[(b,Jk sb kind text (.slice va nf vc) now key (.slice (some ⟨g,off,none⟩) n2 cap))]))) S5 (J5 fun f=>by
      rw[hRR.out];simp only[SC];omega) ⟨2,te,0⟩)
     obtain⟨⟨c0,hc0⟩,⟨c1,hc1⟩,⟨c2,hc2⟩,⟨c3,hc3⟩,⟨c4,hc4⟩,⟨c5,hc5⟩,fz,hlt⟩:=Jl (S5.own.tail.right.right.tail.right.right.at_ _ hzm)
     clear herr S5 hzm hRR;unfold J7;go_wp2_with fail;refine bodyPost_ret (v:=Ja ⟨2,te,0⟩) (by simp[results,Tryz.results100,go_sem,J7,Ja, *]<;>rfl) rfl ?_
     rw[hTc.out];exact⟨rfl,l,hX,S11.out⟩
    ·obtain⟨ty,hty⟩:=htext.out hc
     obtain⟨hil,hsl⟩:=hnil.out hc
     obtain⟨rfl,rfl,rfl⟩:ua=none/\un=0/\uc=0:=by injection hsl with h1 h2 h3;exact⟨h1,h2,h3⟩
     subst hil;subst hc;subst hty;have hTf:Hid (T=if J5u fs name ty then J7f S now key (J3c (fput fs name ty)) sm else(S,Kt 94)):=hid (by rw[hTe.out];rfl)
     clear hTe hknown htext hnil hsl;replace S10:J3 w0 [] w7 ((qb,Jb 1 ty (.slice none 0 0))::(wb,Jb kw xw (.slice none 0 0))::(l++(sl++R))):=S10;go_upto_region 11 with fail;obtain⟨R3,hR3⟩:∃R3:Hp,R3=(qb,Jb 1 ty (.slice none 0 0))::(wb,Jb kw xw (.slice none 0 0))::R:=⟨_,rfl⟩
     have S4:J3 w0 [] w7 (sl++(l++R3)):=S10.permR (J5 fun f=>by
      rw[hR3];simp only[SC];omega)
     have hjm3:(b,Jk sb kind text (.slice va nf vc) now key (.slice (some ⟨g,off,none⟩) n2 cap))∈R3:=by rw[hR3];exact List.mem_cons_of_mem _ (List.mem_cons_of_mem _ hjm)
     have hqm:(qb,Jb 1 ty (.slice none 0 0))∈R3:=by rw[hR3];exact List.mem_cons_self ..
     have hput:∃(kd2:Int) (tx2:ByteArray) (fs2:Fs) (fr:Bool) (er:Int),(J5u fs name ty=true/\kd2=2/\tx2=ByteArray.empty/\fs2=fput fs name ty/\er=0\/J5u fs name ty=false/\er=94)/\∀(w':World) (X:Hp),Hid (J3 w0 [] w' (X++(sl++(l++R3)))->Calls Tryz.prog 161 #[J6 kind text (.slice va nf vc),.string name,.string ty] w' (J8k w0 R3 l X kd2 tx2 fs2 fr er)):=by
      cases hpo:J5u fs name ty with
      |true=>
       obtain⟨p1,p2,p3⟩:=Jbh hpo
       exact⟨2,ByteArray.empty,fput fs name ty,!has fs name,0,.inl ⟨rfl,rfl,rfl,rfl,rfl⟩,fun w' X=>hid fun hw=>(Jg3 (l:=[]) (r:=X++(l++R3)) hk (hw.permR (J5 fun f=>by simp only[SC];omega)) hat hr hB name ty p1 p2 p3).mono fun _ _ hp=>.of hp⟩
      |false=>exact⟨kind,text,fs,false,94,.inr ⟨rfl,rfl⟩,fun w' X=>hid fun hw=>(Jg4 (l:=[]) (r:=X++(l++R3)) hk (hw.permR (J5 fun f=>by simp only[SC];omega)) hat hr hB name ty hpo).mono fun _ _ hp=>.bad hp⟩
     obtain⟨kd2,tx2,fs2,fr,er,hcase,hput⟩:=hput
     unfold J6 at hput;replace hcase:=hid hcase;have hs1:Hid (J3 w0 [] w7.drew ([]++(sl++(l++R3)))):=hid S4.drew;have hs2:Hid (∀o:Obj,J3 w0 [] (w7.alloc o).drew ([(w7.heap.size,o)]++(sl++(l++R3)))):=hid fun o=>(S4.alloc o).drew
     have hx1:Hid (InX w0 R3 w7.drew):=hid ⟨sl++l,by rw[List.append_assoc];exact S4.drew⟩
     have hx0:Hid (InX w0 R3 w7):=hid ⟨sl++l,by rw[List.append_assoc];exact S4⟩
     have har:Hid (∀w',InX w0 R3 w'->w'.cell? ⟨g,off,none⟩=some (.string name)):=hid fun w' ⟨x,hx⟩=>by
      have hx2:J3 w0 [] w' ((x++[(qb,Jb 1 ty (.slice none 0 0)),(wb,Jb kw xw (.slice none 0 0))])++R):=by rw[List.append_assoc];rw[hR3] at hx;exact hx
      exact hag.out.at_ w' _ hx2 0 name rfl
     have hkeep:Hid (∀w',Hid (InX w0 R3 w')->w'.cell? ⟨b,1,none⟩=some (.int .i64 kind)/\w'.cell? ⟨b,2,none⟩=some (.string text)/\w'.cell? ⟨b,3,none⟩=some (.slice va nf vc)/\w'.cell? ⟨b,6,none⟩=some (.slice (some ⟨g,off,none⟩) n2 cap)/\w'.cell? ⟨g,off,none⟩=some (.string name)/\w'.cell? ⟨qb,1,none⟩=some (.string ty)/\Hid (InX w0 R3 w')):=hid fun w' hx=>by
      obtain⟨_,d1,d2,d3,_,_,d6⟩:=J1n (InX.get hx hjm3)
      exact⟨d1,d2,d3,d6,har.out w' hx.out,J2 (InX.get hx hqm) 1,hx⟩
     clear S4 S10 har hjm hqm;replace hR3:=hid hR3;replace hjm3:=hid hjm3;go_cut [4,11,12] (fun s4 s11 s12 wc=>∃nb va2 vn vc2 sl2,s11= .pointer (some ⟨nb,0,none⟩)/\s4= .int .i64 er/\Hid (Jj (.slice va2 vn vc2) fs2 sl2)/\Hid (J3 w0 [] wc ((nb,Jb kd2 tx2 (.slice va2 vn vc2))::(l++(sl2++R3)))))
     case first=>
      go_region_held3 (fun w'=>w'.cell? ⟨b,1,none⟩=some (.int .i64 kind)/\w'.cell? ⟨b,2,none⟩=some (.string text)/\w'.cell? ⟨b,3,none⟩=some (.slice va nf vc)/\w'.cell? ⟨b,6,none⟩=some (.slice (some ⟨g,off,none⟩) n2 cap)/\w'.cell? ⟨g,off,none⟩=some (.string name)/\w'.cell? ⟨qb,1,none⟩=some (.string ty)/\Hid (InX w0 R3 w'))
       (first|(with_reducible exact hkeep.out _ hx1)|(with_reducible exact hkeep.out _ (hset.out _ _ _))|(with_reducible exact hkeep.out _ (by assumption))|(with_reducible exact hkeep.out _ (InX.alloc (by assumption) _))|(with_reducible exact hkeep.out _ (InX.drew (InX.alloc (by assumption) _)))|(fail "keep"))
       (first|(go_at_call 161;refine((hput _ _).out hs1.out).mono ?_;rintro e w2 ⟨va2,vn,vc2,sl2,rfl,hat2,S5,hx2⟩)|(go_at_call 161;refine((hput _ _).out (hs2.out _)).mono ?_;rintro e w2 ⟨va2,vn,vc2,sl2,rfl,hat2,S5,hx2⟩;obtain⟨z0,z1,z2,zf⟩:=Jn S5.out.own.head;have zl:=Jf S5.out.own.head;have hset:Hid (∀v0 v1 v2,_):=hid fun v0 v1 v2=>InX.set3 (A:=l++sl2) (by rw[List.append_assoc];exact S5.out) v0 v1 v2))
      all_goals (
       go_wp2_with fail;go_meet
       first|exact⟨_,va2,vn,vc2,sl2,rfl,rfl,hat2,hid (S5.out.alloc _)⟩|exact⟨_,va2,vn,vc2,sl2,rfl,rfl,hat2,hid (((S5.out.set 0 _).set 1 _).set 2 _)⟩)
     case rest=>
      obtain⟨nb,va2,vn,vc2,sl2,rfl,rfl,hat2,S5⟩:=hcut
      clear hput hs1 hs2 hx1 hx0 hkeep
      have S6:J3 w0 [] wc (l++(sl2++((nb,Jb kd2 tx2 (.slice va2 vn vc2))::R3))):=S5.out.permR (J5 fun f=>by
       simp only[SC];omega)
      have hzm3:(b+1,J4)∈R3:=by rw[hR3.out];exact List.mem_cons_of_mem _ (List.mem_cons_of_mem _ hzm)
      rcases hcase.out with⟨hpo,rfl,rfl,rfl,rfl⟩|⟨hpo,rfl⟩
      rotate_left
      ·have hTc:Hid (T=(S,Kt 94)):=hid (by rw[hTf.out,if_neg (by simp[hpo])])
       have herr:=hid (J4v S6 94 (by unfold K2;omega))
       unfold Kt at hTc;clear S5 S6 hTf hcase;generalize Jx 94=te at herr hTc;replace hpo:=hid hpo;go_wp2_with fail;refine herr.out.mono ?_;rintro e2 w8 ⟨rfl,S5⟩
       have S11:=hid (fend (b:=b+1) (l:=l) (r:=r) (junk:=sl2++[(nb,Jb kd2 tx2 (.slice va2 vn vc2)),(qb,Jb 1 ty (.slice none 0 0)),(wb,Jb kw xw (.slice none 0 0)),(b,Jk sb kind text (.slice va nf vc) now key (.slice (some ⟨g,off,none⟩) n2 cap))]) S5 (J5 fun f=>by
        rw[hR3.out,hRR.out];simp only[SC];omega) ⟨2,te,0⟩)
       obtain⟨⟨c0,hc0⟩,⟨c1,hc1⟩,⟨c2,hc2⟩,⟨c3,hc3⟩,⟨c4,hc4⟩,⟨c5,hc5⟩,fz,hlt⟩:=Jl (S5.own.right.right.tail.at_ _ hzm3)
       clear herr S5 hzm hzm3 hRR hR3;unfold J7;go_wp2_with fail;refine bodyPost_ret (v:=Ja ⟨2,te,0⟩) (by simp[results,Tryz.results100,go_sem,J7,Ja, *]<;>rfl) rfl ?_
       rw[hTc.out];exact⟨rfl,l,hX,S11.out⟩
      ·have hTk:Hid (T=J7f S now key (J3c (fput fs name ty)) sm):=hid (by rw[hTf.out,if_pos hpo])
       have hRt:J0e (J3c (fput fs name ty)):=by
        obtain⟨h1,h2⟩:=hok.out.fput hpo
        exact h1.right h2
       have hio:=S6.own.right.right.head;have i0:wc.cell? ⟨nb,0,none⟩=some (.int .i64 2):=J2 hio 0;have i1:wc.cell? ⟨nb,1,none⟩=some (.string ByteArray.empty):=J2 hio 1;have i2:wc.cell? ⟨nb,2,none⟩=some (.slice va2 vn vc2):=J2 hio 2;obtain⟨d0,d1,d2,d3,d4,d5,d6⟩:=J1n (S6.own.right.right.tail.at_ _ hjm3.out)
       have hkc:=Jb7 (kind':=kind) (text':=text) (v':=.slice va nf vc) (it:=J3c (fput fs name ty)) S6 hG hX hT hl key hks (.inl ⟨hRt,hat2.out⟩) ⟨va2,vn,vc2,rfl⟩ now sm (.slice (some ⟨g,off,none⟩) n2 cap);rw[<-hTk.out] at hkc;unfold Kz J6 at hkc
       have hend:Hid (∀(w':World) (l3:Hp) (a:Lf),J3 w0 [] w' (l3++(sl2++((nb,Jb 2 ByteArray.empty (.slice va2 vn vc2))::R3)))->J3 w0 [] _ (l3++r)):=hid fun w' l3 a h=>((h.permR (l2:=(b+1,J4)::(l3++r++(sl2++[(nb,Jb 2 ByteArray.empty (.slice va2 vn vc2)),(qb,Jb 1 ty (.slice none 0 0)),(wb,Jb kw xw (.slice none 0 0)),(b,Jk sb kind text (.slice va nf vc) now key (.slice (some ⟨g,off,none⟩) n2 cap))]))) (J5 fun f=>by
        rw[hR3.out,hRR.out];simp only[SC];omega)).setLf a).less (List.sublist_append_left _ _)
       have hkc2:Hid (Calls Tryz.prog 162 #[.agg #[ptr sb,.int .i64 kind,.string text,.slice va nf vc,.int .i64 now,.string key,(.slice (some ⟨g,off,none⟩) n2 cap)],.agg #[.int .i64 2,.string ByteArray.empty,.slice va2 vn vc2],.int .i64 sm] wc (Jp w0 (sl2++((nb,Jb 2 ByteArray.empty (.slice va2 vn vc2))::R3)) sb T.1 (Ja T.2))):=hid hkc;clear hkc S5 S6 hio;go_wp2_with fail;refine hkc2.out.mono ?_;rintro e w3 ⟨rfl,l3,hX3,S4⟩;have S9:=hid (hend.out w3 l3 T.2 S4);obtain⟨⟨z0,hz0⟩,⟨z1,hz1⟩,⟨z2,hz2⟩,⟨z3,hz3⟩,⟨z4,hz4⟩,⟨z5,hz5⟩,fz,hlt⟩:=Jl (S4.own.right.right.tail.at_ _ hzm3)
       clear hkc2 S4 hend d0 d1 d2 d3 d4 d5 d6 i0 i1 i2 hzm hzm3;unfold Ja J7;go_wp2_with fail;refine bodyPost_ret (v:=Ja T.2) (by simp[results,Tryz.results100,go_sem,J7,Ja, *]<;>rfl) rfl ?_
       exact⟨rfl,l3,hX3,S9.out⟩
def J7o:Fs->List Lf
 |[]=>[]
 |f::fs=>J11 f.1::J11 f.2::J7o fs
theorem Jpl (fs:Fs):(J7o fs).length=2*fs.length:=by
 induction fs with
 |nil=>rfl
 |cons f fs ih=>simp only[J7o,List.length_cons,ih];omega
theorem Jh5 (a b:Fs):J7o (a++b)=J7o a++J7o b:=by
 induction a with
 |nil=>rfl
 |cons f a ih=>simp only[List.cons_append,J7o,ih]
abbrev Jgy (a b:Lf):Obj:=.cells #[.int .i64 a.kind,.string a.text,.int .i64 a.n,.float .f64 0,.bool false,.slice none 0 0,.int .i64 b.kind,.string b.text,.int .i64 b.n,.float .f64 0,.bool false,.slice none 0 0] 34 (0,0)
theorem Juh {va:Option Addr} {k c:Nat} {l:List Lf} {a b:Lf} {nb:Nat} (hS:J3 w0 [] w (sl++r)) (hsl:J3s (.slice va k c) l sl) (hk:l.length=k) (hB:k<=1000000000) (hm:(nb,Jgy a b)∈r):
 ∃va' c' w' sl',(Builtin.append_ #[32,32] 32 #[.slice va k c,.slice (some ⟨nb,0,none⟩) 2 2]).run Tryz.prog w= .ok (.slice va' (k+2) c') w'/\J3s (.slice va' (k+2) c') (l++[a,b]) sl'/\J3 w0 [] w' (sl'++r):=by
 have hh:=hS.own.right.at_ _ hm
 obtain⟨v',w',sl',hrun,hsl',S',_⟩:=J1f (P:=Tryz.prog) (ty:=32) Tryz.underlying32 Tryz.underlying32 Jpf rfl (by decide) hS hsl
  ⟨nb,0,none⟩ 2 2 (J1w a++J1w b) rfl (by
   intro j u hu
   rw[J0i,Nat.zero_add,J2 hh,<-hu];show(J1w a++J1w b).toArray[j]? =(J1w a++J1w b)[j]?
   rw[List.getElem?_toArray]) (by simp[J1w,Value.oneCell']) (by omega) (by rw[hk];omega) (by rw[hk];unfold maxLen;omega)
 obtain⟨a',c',rfl,_,_⟩:=hsl'.form
 rw[hk] at hrun hsl';refine⟨a',c',w',sl',hrun,?_,S'⟩
 have e:J2x (l++[a,b])=J2x l++(J1w a++J1w b):=by simp[J2x]
 show SliceHp 6 _ _ (l++[a,b]).length (J2x (l++[a,b])) sl'
 rw[List.length_append,e,hk];exact hsl'
theorem J7k {P:Program} {ops:Array Oper} {o:Oper} {a:Act} {K:Act->World->Prop} {Q:Exit->Act->World->Prop} {E:Prop} {w':World} {v':Value} (hgd:o.guard=none) (s x:Operand) (t t2:TypeId)
 (ho:o.op= .call {callee:=.builtin .append,args:=#[s,x],argTypes:=#[t,t2]}) (v vx:Value) (hs:a.eval s=v) (hx:a.eval x=vx)
 (hrun:(Builtin.append_ #[t,t2] o.type #[v,vx]).run P w= .ok v' w') (h:K (a.put o.dst v') w'):
  if Region.wanted o (yielded ops a.tmps)=true then Oper.wp P o a w K Q else E:=by
  have hw:Region.wanted o (yielded ops a.tmps)=true:=by simp[Region.wanted,hgd]
  rw[if_pos hw];unfold Oper.wp execOp;simp only[ho,resolve,invoke,builtin,Sem.run_bind,Sem.run_pure,Result.andThen_ok,List.map_toArray,List.map_cons,List.map_nil,hs,hx,hrun];exact h
theorem Jsv (kind:Int) (text:ByteArray) (hS:J3 w0 [] w (sl++r)) (hat:Jj v fs sl) (hB:fs.length<=256) (sb:Nat) (now:Int) (key:ByteArray) (ga:Option Addr) (n cap:Nat):
 Calls Tryz.prog 102 #[Kz sb kind text v now key (.slice ga n cap)] w (J50 w0 (sl++r) 12 ByteArray.empty 0 (J7o fs)):=by
 obtain⟨fa,fc,rfl⟩:=hat.shape
 obtain⟨nf,hnf⟩:∃nf,nf=fs.length:=⟨_,rfl⟩
 rw[<-hnf] at hat⊢;have hnf2:nf<=256:=by omega
 replace hnf:=hid hnf;have S1:=((hS.alloc (Jk sb kind text (.slice fa nf fc) now key (.slice ga n cap))).alloc J4).alloc (.cells #[.int .i64 12,.string ByteArray.empty,.int .i64 0,.float .f64 0,.bool false,.slice none 0 0] 34);simp only[World.size_alloc] at S1;replace S1:=hid S1;replace hat:=hid hat;clear hS;go_enter Tryz.func102,Tryz.ntmps102;unfold Kz;go_upto_region 2 with fail;generalize hw1:((w.alloc _).alloc _).alloc _=w1;replace S1:J3 w0 [] w1 _:=hw1▸S1.out;clear hw1;generalize w.heap.size=b at S1⊢;obtain⟨ob,hob⟩:∃ob,ob=b+1+1:=⟨_,rfl⟩
 rw[<-hob] at S1⊢;clear hob;obtain⟨R,hR⟩:∃R:Hp,R=(b+1,J4)::(b,Jk sb kind text (.slice fa nf fc) now key (.slice ga n cap))::r:=⟨_,rfl⟩
 have S2:Hid (J3 w0 [] w1 ((ob,.cells #[.int .i64 12,.string ByteArray.empty,.int .i64 0,.float .f64 0,.bool false,.slice none 0 0] 34 (0,0))::([]++(sl++R)))):=hid (S1.permR (J5 fun f=>by
  rw[hR];simp only[SC];omega))
 have hjm:(b,Jk sb kind text (.slice fa nf fc) now key (.slice ga n cap))∈R:=by rw[hR];simp
 have c3:=(J1n (S2.out.own.tail.right.right.at_ _ hjm)).c3;clear S1;replace hR:=hid hR;go_wp2_with fail;clear c3 hjm;go_loopw [5,11] (fun s5 s11 wr=>∃(k m:Nat) (va:Option Addr) (c:Nat) (vl:Hp),s11= .int .i64 k/\k<=nf/\Hid (m=2*k)/\Hid (J3s (.slice va m c) (J7o (fs.take k)) vl)/\Hid (J3 w0 [] wr ((ob,.cells #[.int .i64 12,.string ByteArray.empty,.int .i64 0,.float .f64 0,.bool false,.slice va m c] 34 (0,0))::(vl++(sl++R))))) (fun s5 s11 wr=>(nf - intOf s11).toNat)
 case atStart=>exact⟨0,0,none,0,[],rfl,Nat.zero_le _,hid rfl,hid .nil,S2⟩
 case round=>
  obtain⟨k,m,va,c,vl,rfl,hk,hm,hvl,S3⟩:=hrel
  clear S2;by_cases hlt:k<nf
  ·obtain⟨f,hfk⟩:∃f,fs[k]? =some f:=⟨fs[k]'(by rw[<-hnf.out];exact hlt),List.getElem?_eq_getElem _⟩
   have htk:Hid (fs.take (k+1)=fs.take k++[f]):=hid (by rw[List.take_add_one,hfk];rfl)
   have hat2:=hat.out.sl;rw[<-hnf.out] at hat2;obtain⟨g,cap2,rest,hfv,_,_,rfl,_⟩:=hat2.view (by omega)
   simp only[Value.slice.injEq] at hfv;obtain⟨rfl,_,rfl⟩:=hfv
   have hlt3:(k:Int)<(nf:Int):=by omega
   have hfb:=S3.out.own.tail.right.left.head;have hcm:=J1q fs k f hfk;have hlen:=K7 fs
   have b0:wr.cell? ⟨g,k*2,none⟩=some (.string f.1):=by
    rw[J2 hfb,List.getElem?_toArray,List.getElem?_append_left (by have:=hnf.out;omega),Nat.mul_comm,hcm.1]
   have b1:wr.cell? ⟨g,k*2+1,none⟩=some (.string f.2):=by
    rw[J2 hfb,List.getElem?_toArray,List.getElem?_append_left (by have:=hnf.out;omega),Nat.mul_comm,hcm.2]
   clear hfb hcm hlen hat2;replace hfk:=hid hfk;go_upto_region 5 with fail;have S4:=S3.out.alloc (.cells #[.string f.1,.string f.2] 93);generalize hw:wr.alloc _=w2 at S4⊢;clear hw S3 b0 b1;generalize wr.heap.size=fb at S4⊢;obtain⟨R2,hR2⟩:∃R2:Hp,R2=(fb,.cells #[.string f.1,.string f.2] 93 (0,0))::(ob,.cells #[.int .i64 12,.string ByteArray.empty,.int .i64 0,.float .f64 0,.bool false,.slice va m c] 34 (0,0))::([(g,.cells (J9 fs++rest).toArray 93 (0,0))]++R):=⟨_,rfl⟩
   have S5:J3 w0 [] w2 (vl++R2):=S4.permR (J5 fun f=>by
    rw[hR2];simp only[SC];omega)
   have hfm:(fb,.cells #[.string f.1,.string f.2] 93 (0,0))∈R2:=by rw[hR2];simp
   have hmm:(ob,.cells #[.int .i64 12,.string ByteArray.empty,.int .i64 0,.float .f64 0,.bool false,.slice va m c] 34 (0,0))∈R2:=by rw[hR2];simp
   have hs1:Hid (J3 w0 [] w2.drew (vl++R2)):=hid S5.drew
   have hcl:Hid (∀(w':World) (x:Hp),J3 w0 [] w' (x++R2)->w'.cell? ⟨fb,0,none⟩=some (.string f.1)/\w'.cell? ⟨fb,1,none⟩=some (.string f.2)/\w'.cell? ⟨ob,5,none⟩=some (.slice va m c)):=hid fun w' x h=>by
    have hf:=h.own.right.at_ (fb,.cells #[.string f.1,.string f.2] 93 (0,0)) hfm;exact⟨J2 hf 0,J2 hf 1,J2 (h.own.right.at_ (ob,.cells #[.int .i64 12,.string ByteArray.empty,.int .i64 0,.float .f64 0,.bool false,.slice va m c] 34 (0,0)) hmm) 5⟩
   have g0:=(hcl.out _ _ hs1.out).1;have g1:=(hcl.out _ _ hs1.out).2.1;have g2:=(hcl.out _ _ hs1.out).2.2
   have hfin:Hid (∀(w7:World) (va3:Option Addr) (c3:Nat) (vl3:Hp),J3 w0 [] w7 (vl3++R2)->J3 w0 [] (w7.setCell ⟨ob,5,none⟩ (.slice va3 (m+2) c3)) ((ob,.cells #[.int .i64 12,.string ByteArray.empty,.int .i64 0,.float .f64 0,.bool false,.slice va3 (m+2) c3] 34 (0,0))::(vl3++([(g,.cells (J9 fs++rest).toArray 93 (0,0))]++R)))):=hid fun w7 va3 c3 vl3 h=>by
    have h5:=(h.pick (l2:=(ob,.cells #[.int .i64 12,.string ByteArray.empty,.int .i64 0,.float .f64 0,.bool false,.slice va m c] 34 (0,0))::(vl3++([(g,.cells (J9 fs++rest).toArray 93 (0,0))]++R))) (m:=[(fb,.cells #[.string f.1,.string f.2] 93 (0,0))]) (J5 fun f=>by
    rw[hR2];simp only[SC];omega)).set 5 (.slice va3 (m+2) c3)
    exact h5
   have htx:∀(w':World) (t:ByteArray) (L:Hp),Hid (J3 w0 [] w' L->_):=fun w' t L=>hid fun hw=>J97 hw t
   unfold J7 at htx
   have hpush:Hid (∀w6:World,J3 w0 [] w6 (vl++R2)->∃va' c' w' sl',(Builtin.append_ #[32,32] 32 #[.slice va m c,.slice (some ⟨w6.heap.size,0,none⟩) 2 2]).run Tryz.prog (w6.alloc (.cells #[.int .i64 4,.string f.1,.int .i64 0,.float .f64 0,.bool false,.slice none 0 0,.int .i64 4,.string f.2,.int .i64 0,.float .f64 0,.bool false,.slice none 0 0] 34))= .ok (.slice va' (m+2) c') w'/\J3s (.slice va' (m+2) c') (J7o (fs.take (k+1))) sl'/\J3 w0 [] w' (sl'++R2)):=hid fun w6 h6=>by
    have S8:J3 w0 [] _ ((w6.heap.size,Jgy (J11 f.1) (J11 f.2))::_):=h6.alloc (.cells #[.int .i64 4,.string f.1,.int .i64 0,.float .f64 0,.bool false,.slice none 0 0,.int .i64 4,.string f.2,.int .i64 0,.float .f64 0,.bool false,.slice none 0 0] 34)
    obtain⟨va3,c3,w7,vl3,hrun,hvl3,S9⟩:=Juh (nb:=w6.heap.size) (a:=J11 f.1) (b:=J11 f.2) (sl:=vl) (r:=(w6.heap.size,Jgy (J11 f.1) (J11 f.2))::R2) (S8.permR (J5 fun f=>by
     simp only[SC];omega)) hvl.out (by rw[Jpl,List.length_take,<-hnf.out];have:=hm.out;omega) (by have:=hm.out;omega) (by simp)
    exact⟨va3,c3,w7,vl3,hrun,by rw[htk.out,Jh5];exact hvl3,S9.pick (m:=[(w6.heap.size,Jgy (J11 f.1) (J11 f.2))]) (J5 fun f=>by
     simp only[SC];omega)⟩
   have hm2:Hid (m+2=2*(k+1)):=hid (by have:=hm.out;omega)
   clear S4 S5 hvl;go_region_law (first|(refine J7k rfl _ _ _ _ rfl _ _ rfl rfl hrun.out ?_)|(go_simp;go_at_call_of 84 (Value.string f.1);refine((htx _ f.1 _).out hs1.out).mono ?_;rintro e w5 ⟨rfl,S5⟩;obtain⟨p0,p1,p2⟩:=hcl.out _ _ S5;replace S5:=hid S5;go_wp2_with fail)|(go_simp;go_at_call_of 84 (Value.string f.2);refine((htx _ f.2 _).out S5.out).mono ?_;rintro e w6 ⟨rfl,S6⟩;obtain⟨q0,q1,q2⟩:=hcl.out _ _ S6;have g6a:∀o:Obj,(w6.alloc o).cell? ⟨ob,5,none⟩=some (.slice va m c):=fun o=>(hcl.out _ ((w6.heap.size,o)::vl) (S6.alloc o)).2.2;obtain⟨va3,c3,w7,vl3,hrun,hvl3,S9⟩:=hpush.out w6 S6;have g7:=(hcl.out _ _ S9).2.2;have hvl4:=hid hvl3;have fz:∀j,w7.frozen? ⟨ob,j,none⟩=false:=fun j=>Jg (S9.own.right.at_ (ob,.cells #[.int .i64 12,.string ByteArray.empty,.int .i64 0,.float .f64 0,.bool false,.slice va m c] 34 (0,0)) hmm) j;have hlt2:=Jf (S9.own.right.at_ (ob,.cells #[.int .i64 12,.string ByteArray.empty,.int .i64 0,.float .f64 0,.bool false,.slice va m c] 34 (0,0)) hmm);have S10:=hid (hfin.out _ va3 c3 _ S9);replace S6:=hid S6;replace S9:=hid S9;replace hrun:=hid hrun;clear hvl3;go_wp2_with fail))
   all_goals (
    go_wp2_with fail;go_roundw
    case rel=>exact⟨k+1,m+2,va3,c3,vl3,rfl,hlt,hm2,hvl4,S10⟩
    case measure=>simp[intOf];omega)
  ·obtain rfl:k=nf:=by omega
   have hfull:fs.take k=fs:=by rw[hnf.out,List.take_length]
   rw[hfull] at hvl
   have S4:J3 w0 [] wr ((b+1,J4)::(vl++(sl++r)++[(ob,.cells #[.int .i64 12,.string ByteArray.empty,.int .i64 0,.float .f64 0,.bool false,.slice va m c] 34 (0,0)),(b,Jk sb kind text (.slice fa k fc) now key (.slice ga n cap))])):=S3.out.permR (J5 fun f=>by
    rw[hR.out];simp only[SC];omega)
   obtain⟨o0,o1,o2,o3,o4,o5⟩:wr.cell? ⟨ob,0,none⟩=some (.int .i64 12)/\wr.cell? ⟨ob,1,none⟩=some (.string ByteArray.empty)/\wr.cell? ⟨ob,2,none⟩=some (.int .i64 0)/\wr.cell? ⟨ob,3,none⟩=some (.float .f64 0)/\wr.cell? ⟨ob,4,none⟩=some (.bool false)/\wr.cell? ⟨ob,5,none⟩=some (.slice va m c):=⟨J2 S3.out.own.head 0,J2 S3.out.own.head 1,J2 S3.out.own.head 2,J2 S3.out.own.head 3,J2 S3.out.own.head 4,J2 S3.out.own.head 5⟩
   obtain⟨⟨z0,hz0⟩,⟨z1,hz1⟩,⟨z2,hz2⟩,⟨z3,hz3⟩,⟨z4,hz4⟩,⟨z5,hz5⟩,fz,hlt2⟩:=Jl S4.own.head
   have S9:=hid ((((((((S4.set 0 (.int .i64 12)).set 1 (.string ByteArray.empty)).set 2 (.int .i64 0)).set 3 (.float .f64 0)).set 4 (.bool false)).set 5 (.slice va m c)).less (List.sublist_cons_self _ _)).less (List.sublist_append_left _ _));clear S3 S4;go_wp2_with fail;refine bodyPost_ret (v:=J7 12 ByteArray.empty 0 (.slice va m c)) (by simp[results,Tryz.results102,go_sem,J7, *]<;>rfl) rfl ?_
   exact⟨_,vl,rfl,hvl.out,S9.out⟩
theorem Jqa {sb:Nat} {kind:Int} {text:ByteArray} (hk:(kind==1)=false) (hS:J3 w0 [] w (sl++r))
 (hat:Jj v fs sl) (hr:J1z fs) (hB:fs.length<=1048576) (key:ByteArray) (now:Int) {g off:Nat} {ws:List ByteArray} (ha:J2h w0 r g off ws) (hfew:ws.length<=1000) (cap:Nat):
  Calls Tryz.prog 101 #[Kz sb kind text v now key (.slice (some ⟨g,off,none⟩) ws.length cap)] w (J50 w0 (sl++r) 5 ByteArray.empty 0 (ws.map (J2o fs))):=by
  obtain⟨ia,ic,rfl⟩:=hat.shape
  obtain⟨n,hlen⟩:∃n,ws.length=n:=⟨_,rfl⟩
  rw[hlen] at hfew⊢;replace hlen:=hid hlen;obtain⟨nf,hnf⟩:∃nf,nf=fs.length:=⟨_,rfl⟩
  rw[<-hnf] at hat⊢;have hB2:nf<=1048576:=by omega
  replace hnf:=hid hnf;have S1:=(hS.alloc (Jk sb kind text (.slice ia nf ic) now key (.slice (some ⟨g,off,none⟩) n cap))).alloc J4;simp only[World.size_alloc] at S1;replace S1:=hid S1;have hat0:=hid hat;replace hr:=hid hr;replace hk:=hid hk;replace hB:=hid hB;clear hS hat;go_enter Tryz.func101,Tryz.ntmps101;unfold Kz;go_upto_region 1 with fail;generalize hw1:(w.alloc _).alloc _=w1;replace S1:J3 w0 [] w1 _:=hw1▸S1.out;clear hw1;generalize w.heap.size=b at S1⊢;obtain⟨R,hR⟩:∃R:Hp,R=sl++((b,Jk sb kind text (.slice ia nf ic) now key (.slice (some ⟨g,off,none⟩) n cap))::((b+1,J4)::r)):=⟨_,rfl⟩
  have S2:Hid (J3 w0 [] w1 ([]++R)):=hid (S1.permR (J5 fun f=>by
   rw[hR];simp only[SC];omega))
  clear S1;have hjm:(b,Jk sb kind text (.slice ia nf ic) now key (.slice (some ⟨g,off,none⟩) n cap))∈R:=by rw[hR];simp
  have hzm:(b+1,J4)∈R:=by rw[hR];simp
  have hperm:Hid (∀(w':World) (X:Hp),J3 w0 [] w' (X++R)->J3 w0 [] w' (sl++(X++((b,Jk sb kind text (.slice ia nf ic) now key (.slice (some ⟨g,off,none⟩) n cap))::((b+1,J4)::r))))):=hid fun w' X h=>h.permR (J5 fun f=>by
   rw[hR];simp only[SC];omega)
  have hback:Hid (∀(w':World) (X:Hp),J3 w0 [] w' (sl++(X++((b,Jk sb kind text (.slice ia nf ic) now key (.slice (some ⟨g,off,none⟩) n cap))::((b+1,J4)::r))))->J3 w0 [] w' (X++R)):=hid fun w' X h=>h.permR (J5 fun f=>by
   rw[hR];simp only[SC];omega)
  have hargs:Hid (∀(w':World) (X:Hp),J3 w0 [] w' (X++R)->∀(i:Nat) (s:ByteArray),ws[i]? =some s->w'.cell? ⟨g,off+i,none⟩=some (.string s)):=hid fun w' X h i s hi=>
   ha.at_ w' (X++sl++[(b,Jk sb kind text (.slice ia nf ic) now key (.slice (some ⟨g,off,none⟩) n cap)),(b+1,J4)]) (by rw[hR] at h;simpa using h) i s hi
  replace hR:=hid hR;have c6:=(J1n (S2.out.own.at_ _ (by simpa using hjm))).c6
  clear ha;go_wp2_with fail;clear c6;go_loopw [3,5,9] (fun s3 s5 s9 wr=>∃(k:Nat) (va:Option Addr) (c:Nat) (xl:Hp),s3= .slice va k c/\s9= .int .i64 k/\k<=n/\Hid (J3s (.slice va k c) ((ws.take k).map (J2o fs)) xl)/\Hid (J3 w0 [] wr (xl++R))) (fun s3 s5 s9 wr=>(n - intOf s9).toNat)
  case atStart=>exact⟨0,none,0,[],rfl,rfl,Nat.zero_le _,hid .nil,S2⟩
  case round=>
   obtain⟨k,va,c,xl,rfl,rfl,hkn,hat,S3⟩:=hrel
   clear S2;have hlk:Hid (((ws.take k).map (J2o fs)).length=k):=hid (by rw[List.length_map,List.length_take,hlen.out];omega)
   by_cases hlt:k<n
   ·obtain⟨x,hx⟩:∃x,ws[k]? =some x:=⟨ws[k]'(by rw[hlen.out];omega),List.getElem?_eq_getElem _⟩
    have htk:Hid ((ws.take (k+1)).map (J2o fs)=(ws.take k).map (J2o fs)++[J2o fs x]):=hid (by rw[List.take_add_one,hx];simp)
    have ca:=hargs.out wr xl S3.out k x hx;obtain⟨c0,c1,c2,c3,c4,c5,c6⟩:=J1n (S3.out.own.right.at_ _ hjm)
    have hone:=Ji0 (text:=text) hk.out (hperm.out wr xl S3.out) hat0.out hr.out hB.out x sb now key (some ⟨g,off,none⟩) n cap;have hlt2:(k:Int)<(n:Int):=by omega
    unfold Kz at hone;generalize J2o fs x=a at hone htk;unfold Ja J7 at hone;replace hone:=hid hone;replace hx:=hid hx;clear S3;go_wp2_with fail;refine hone.out.mono ?_;rintro e w2 ⟨rfl,S4⟩;have S5:=(hback.out w2 xl S4).alloc (J0h a);obtain⟨va3,c3',w4,sl3,hrun,hat3,S7⟩:=Jd8 (nb:=w2.heap.size) (a:=a) (r:=(w2.heap.size,J0h a)::R) (S5.permR (J5 fun f=>by simp only[SC];omega)) hat.out hlk.out (by omega) (by simp)
    have S8:=hid (S7.pick (l2:=sl3++R) (m:=[(w2.heap.size,J0h a)]) (J5 fun f=>by simp only[SC];omega))
    rw[<-htk.out] at hat3;replace hrun:=hid hrun;replace hat3:=hid hat3;clear S4 S5 S7 hone hat c0 c1 c2 c3 c4 c5 c6 ca;go_wp2_with (at_builtin;refine J8 rfl _ _ _ _ rfl _ _ rfl rfl hrun.out ?_);go_roundw
    case rel=>exact⟨k+1,va3,c3',sl3,rfl,by go_num,hlt,hat3,S8⟩
    case measure=>simp[intOf];omega
   ·obtain rfl:k=n:=by omega
    have hall:Hid ((ws.take k).map (J2o fs)=ws.map (J2o fs)):=hid (by rw[List.take_of_length_le (by rw[hlen.out];omega)])
    have hl2:Hid ((ws.map (J2o fs)).length=k):=hid (by rw[<-hall.out];exact hlk.out)
    have hlist:=Jgr S3.out hat.out (by rw[hlk.out];omega)
    rw[hall.out] at hlist;unfold J50 at hlist;replace hlist:=hid hlist;clear S3 hat hlk hall;go_wp2_with fail;refine hlist.out.mono ?_;rintro e w2 ⟨v,sl2,rfl,hat2,S3⟩;obtain⟨a2,cc,rfl,_,_⟩:=hat2.form
    have S4:=S3.permR (l2:=(b+1,J4)::(sl2++(sl++r)++(xl++[(b,Jk sb kind text (.slice ia nf ic) now key (.slice (some ⟨g,off,none⟩) k cap))]))) (J5 fun f=>by
     rw[hR.out];simp only[SC];omega)
    obtain⟨⟨c0,hc0⟩,⟨c1,hc1⟩,⟨c2,hc2⟩,⟨c3,hc3⟩,⟨c4,hc4⟩,⟨c5,hc5⟩,fz,hlt2⟩:=Jl S4.own.head
    obtain⟨na,hna⟩:∃na,na=(ws.map (J2o fs)).length:=⟨_,rfl⟩
    rw[<-hna] at hat2⊢;replace hna:=hid hna;have S9:=hid ((((((((S4.set 0 (.int .i64 5)).set 1 (.string ByteArray.empty)).set 2 (.int .i64 0)).set 3 (.float .f64 0)).set 4 (.bool false)).set 5 (.slice a2 na cc)).less (List.sublist_cons_self _ _)).less (List.sublist_append_left _ _));replace hat2:=hid hat2;clear S3 S4 hlist hl2;unfold J7;go_wp2_with fail;refine bodyPost_ret (v:=J7 5 ByteArray.empty 0 (.slice a2 na cc)) (by simp[results,Tryz.results101,go_sem,J7, *]<;>rfl) rfl ?_
    have q1:=hat2.out;have q2:=S9.out;rw[hna.out] at q1 q2⊢;exact⟨_,sl2,rfl,q1,q2⟩
end Go.Proofs.YtncbcaabanoeoaaGreatDoor
