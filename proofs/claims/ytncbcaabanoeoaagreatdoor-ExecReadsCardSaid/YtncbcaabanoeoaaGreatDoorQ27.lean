/-
strconv.rightShift: a decimal halved k times.
-/
import Derived.Deep.CutBlock
import Derived.Deep.DeepCutAuto
import Derived.Deep.LoopGhost
import Derived.WalkMore
import Derived.Test.YtncbcaabanoeoaaGreatDoorQ26
set_option linter.unusedVariables false
set_option linter.unusedSimpArgs false
set_option maxRecDepth 100000
set_option maxHeartbeats 8000000
namespace Go.Proofs.YtncbcaabanoeoaaGreatDoor
open Go Go.RowKit
variable {k d N R W f b nd m:Nat}{ds:List Nat}{T:List Nat × Bool}{w0 wr:World}{r:Hp}{dp:Int}{ng:Bool}{a:Dc}
theorem Jh7 (n k:Nat) (h:n<18446744073709551616) (hk:k<=60):bits .and .u64 (n:Int) ((2 ^k - 1:Nat):Int)=((n%2 ^k:Nat):Int):=by
 have hp:2 ^k<=2 ^60:=Nat.pow_le_pow_right (by decide) hk
 have:=bits_and_u64_nat n (2 ^k - 1) h (by omega)
 rwa[Nat.and_two_pow_sub_one_eq_mod] at this
def Jh1 (k:Nat) (ds:List Nat) (N R:Nat):Prop:=R<=ds.length/\N<2 ^k*10/\(R=0->N=0)/\(1<=R->1<=N)/\J1u k (ds.drop R) N R=J1u k ds 0 0
def Jy2 (k:Nat) (ds:List Nat) (N R:Nat):Prop:=1<=R/\R<=900/\N<2 ^k*10/\J1u k ds 0 0=(N,R,ds.drop R)
def Jsa (k:Nat) (ds:List Nat) (T:Nat×List Nat) (N R W:Nat) (out:List Nat):Prop:=
 out.length=W/\W<R/\N<2 ^k*10/\J9s k (ds.drop R) N out=T
def Jiq (k:Nat) (T:List Nat×Bool) (f N W:Nat) (out:List Nat) (lost:Bool):Prop:=
 ∃j,j+f=k+2/\(j<=k->2 ^j ∣ N)/\(k<j->N=0)/\out.length=W/\W<=800/\N<2 ^k*10/\Jbi k f N out lost=T
theorem Ja9 {l:List Nat} (h:l[k]? =some d):l.drop k=d::l.drop (k+1):=by
 have hlt:=(List.getElem?_eq_some_iff.1 h).1;have h2:=List.drop_eq_getElem_cons (l:=l) (i:=k) hlt;rw[List.getElem?_eq_getElem hlt] at h;rw[h2,Option.some.inj h]
theorem Jh1.next (h:Jh1 k ds N R) (hd:ds[R]? =some d) (hd10:d<10) (hhead:R=0->1<=d) (hz:N/2 ^k=0):Jh1 k ds (N*10+d) (R+1):=by
 have hp:0<2 ^k:=Nat.pow_pos (by decide)
 have hN:N<2 ^k:=by rcases(Nat.div_eq_zero_iff).1 hz with h|h<;>omega
 refine⟨(List.getElem?_eq_some_iff.1 hd).1,by omega,by omega,fun _=>?_,?_⟩
 ·rcases Nat.eq_zero_or_pos R with h0|h0
  ·have:=hhead h0;omega
  ·have:=h.2.2.2.1 h0;omega
 ·have:=h.2.2.2.2
  rw[Ja9 hd,J1u,if_neg (by simpa using hz)] at this
  exact this
theorem Jh1.got (h:Jh1 k ds N R) (hl:ds.length<=800) (hz:N/2 ^k≠0):Jy2 k ds N R:=by
 have h1:1<=R:=by
  rcases Nat.eq_zero_or_pos R with h0|h0
  ·have:=h.2.2.1 h0;subst this;simp at hz
  ·exact h0
 have hr:=h.1;refine⟨h1,by omega,h.2.1,?_⟩
 rw[<-h.2.2.2.2];cases hd:ds.drop R with
 |nil=>
  rw[J1u];have:J7m k (k+1) N R=(N,R):=by rw[J7m,if_pos hz]
  rw[this]
 |cons d t=>rw[J1u,if_pos hz]
def Jlx (k:Nat) (ds:List Nat) (N R:Nat):Prop:=∃f,1<=R/\2 ^k<=N*10 ^f/\N<2 ^k*10/\R+f<=890/\ds.length<=R/\J1u k ds 0 0=((J7m k f N R).1,(J7m k f N R).2,[])
theorem Jh1.pad (h:Jh1 k ds N R) (hl:ds.length<=800) (hk:k<=60) (hR:ds.length<=R) (h0:0<ds.length):Jlx k ds N R:=by
 have hr:=h.1;have hN:=h.2.2.2.1 (by omega)
 refine⟨k+1,by omega,?_,h.2.1,by omega,hR,?_⟩
 ·have:=Jie k
  have h3:1*10 ^(k+1)<=N*10 ^(k+1):=Nat.mul_le_mul_right _ hN;omega
 ·rw[<-h.2.2.2.2,List.drop_eq_nil_of_le hR,J1u]
theorem Jlx.next (h:Jlx k ds N R) (hz:N/2 ^k=0):Jlx k ds (N*10) (R+1):=by
 obtain⟨f,h1,h2,h3,h4,h5,h6⟩:=h
 have hp:0<2 ^k:=Nat.pow_pos (by decide)
 have hN:N<2 ^k:=by rcases(Nat.div_eq_zero_iff).1 hz with h|h<;>omega
 cases f with
 |zero=>simp at h2;omega
 |succ f=>
  refine⟨f,by omega,by rw[Nat.mul_assoc,Nat.mul_comm 10,<-Nat.pow_succ];exact h2,by omega,by omega,by omega,?_⟩
  rw[h6,J7m,if_neg (by simpa using hz)]
theorem Jlx.got (h:Jlx k ds N R) (hz:N/2 ^k≠0):Jy2 k ds N R:=by
 obtain⟨f,h1,h2,h3,h4,h5,h6⟩:=h
 refine⟨h1,by omega,h3,?_⟩
 have:J7m k f N R=(N,R):=by
  cases f with
  |zero=>rfl
  |succ f=>rw[J7m,if_pos hz]
 rw[h6,this,List.drop_eq_nil_of_le h5]
theorem Jsa.next {T:Nat×List Nat} {out:List Nat} (h:Jsa k ds T N R W out) (hd:ds[R]? =some d) (hd10:d<10):Jsa k ds T (N%2 ^k*10+d) (R+1) (W+1) (out++[N/2 ^k]):=by
 obtain⟨h1,h2,h3,h4⟩:=h
 have:=Nat.mod_lt N (show 0<2 ^k from Nat.pow_pos (by decide))
 refine⟨by simp[h1],by omega,by omega,?_⟩
 rw[<-h4,Ja9 hd,J9s]
theorem Jiq.next {out:List Nat} {lost:Bool} (h:Jiq k T f N W out lost) (hN:N≠0):
 ∃g,f=g+1/\(W<800->Jiq k T g (N%2 ^k*10) (W+1) (out++[N/2 ^k]) lost)/\(¬W<800->Jiq k T g (N%2 ^k*10) W out (lost||decide (0<N/2 ^k))):=by
 obtain⟨j,h1,h2,h3,h4,h5,h6,h7⟩:=h
 have hj:j<=k:=by
  refine Nat.le_of_not_lt fun hlt=>hN (h3 hlt)
 have hp:=Nat.mod_lt N (show 0<2 ^k from Nat.pow_pos (by decide))
 obtain⟨f,rfl⟩:∃g,f=g+1:=⟨f - 1,by omega⟩
 have hdiv:j+1<=k->2 ^(j+1) ∣ N%2 ^k*10:=fun hjk=>by
  have hd1:2 ^j ∣ N%2 ^k:=(Nat.dvd_mod_iff (Nat.pow_dvd_pow 2 hj)).2 (h2 hj);rw[Nat.pow_succ];exact Nat.mul_dvd_mul hd1 (by decide)
 have hzero:k<j+1->N%2 ^k*10=0:=fun hjk=>by
  have:j=k:=by omega
  subst this;rw[Nat.mod_eq_zero_of_dvd (h2 (Nat.le_refl _))]
 rw[Jbi,if_neg hN,h4] at h7;refine⟨f,rfl,?_,?_⟩
 ·intro hw
  rw[if_pos hw] at h7;exact⟨j+1,by omega,hdiv,hzero,by simp[h4],by omega,by omega,h7⟩
 ·intro hw
  rw[if_neg hw] at h7;exact⟨j+1,by omega,hdiv,hzero,h4,h5,by omega,h7⟩
theorem Jiq.done {out:List Nat} {lost:Bool} (h:Jiq k T f 0 W out lost):T=(out,lost):=by
 obtain⟨j,h1,h2,h3,h4,h5,h6,h7⟩:=h
 rw[<-h7];cases f with
 |zero=>rfl
 |succ f=>rw[Jbi,if_pos rfl]
def Jir (w0 wr:World) (r:Hp) (b k:Nat) (ds:List Nat) (nd:Nat) (dp:Int) (ng lost:Bool) (T:Nat×List Nat) (N R W:Nat):Prop:=
 ∃cs out,Jsa k ds T N R W out/\(R<=ds.length\/W=0)/\J2v cs nd dp ng lost/\J1o cs 0 out/\J1o cs R (ds.drop R)/\J3 w0 [] wr ((b,J13 cs)::r)
def Jdl (w0 wr:World) (r:Hp) (b k nd:Nat) (dp:Int) (ng:Bool) (T:List Nat×Bool) (f N W:Nat):Prop:=
 ∃cs out lost,Jiq k T f N W out lost/\J2v cs nd dp ng lost/\J1o cs 0 out/\J3 w0 [] wr ((b,J13 cs)::r)
theorem Jd3 {q:Nat} {v:Int} (h:v=(q:Int)+48):(Value.int .u8 v)=dgv q:=by rw[h];congr 1;omega
theorem Jir.next {lost:Bool} {T:Nat×List Nat} (h:Jir w0 wr r b k ds nd dp ng lost T N R W) (hl:ds.length<=800) (hd:ds[R]? =some d) (hd10:d<10):
 Jir w0 (wr.setCell ⟨b,W,none⟩ (.int .u8 ((N/2 ^k:Nat)+48))) r b k ds nd dp ng lost T (N%2 ^k*10+d) (R+1) (W+1):=by
 obtain⟨cs,out,h1,h2,h3,h4,h5,h6⟩:=h
 have hR:=(List.getElem?_eq_some_iff.1 hd).1;have hW:=h1.1;have hWR:=h1.2.1;have hsz:=h3.size;rw[Jd3 (q:=N/2 ^k) rfl];refine⟨cs.setIfInBounds W (dgv (N/2 ^k)),_,h1.next hd hd10,.inl hR,h3.put W (by omega) _,?_,?_,h6.set W _⟩
 ·have:=h4.snoc (by omega) (N/2 ^k)
  rwa[Nat.zero_add,hW] at this
 ·have:=h5.drop 1
  rw[List.drop_drop] at this;exact this.out W _ (.inl (by omega))
theorem Jdl.next (h:Jdl w0 wr r b k nd dp ng T f N W) (hN:N≠0):
 ∃g,f=g+1/\(W<800->Jdl w0 (wr.setCell ⟨b,W,none⟩ (.int .u8 ((N/2 ^k:Nat)+48))) r b k nd dp ng T g (N%2 ^k*10) (W+1))/\
  (¬W<800->N/2 ^k=0->Jdl w0 wr r b k nd dp ng T g (N%2 ^k*10) W)/\
  (¬W<800->0<N/2 ^k->Jdl w0 (wr.setCell ⟨b,803,none⟩ (.bool true)) r b k nd dp ng T g (N%2 ^k*10) W):=by
 obtain⟨cs,out,lost,h1,h3,h4,h6⟩:=h
 obtain⟨g,hg,n1,n2⟩:=h1.next hN
 obtain⟨j,_,_,_,hW,hW8,_,_⟩:=h1
 have hsz:=h3.size;refine⟨g,hg,fun hw=>?_,fun hw hq=>?_,fun hw hq=>?_⟩
 ·rw[Jd3 (q:=N/2 ^k) rfl]
  refine⟨cs.setIfInBounds W (dgv (N/2 ^k)),_,_,n1 hw,h3.put W hw _,?_,h6.set W _⟩
  have:=h4.snoc (by omega) (N/2 ^k)
  rwa[Nat.zero_add,hW] at this
 ·have:=n2 hw
  rw[hq,show decide (0<0)=false from rfl,Bool.or_false] at this;exact⟨cs,out,lost,this,h3,h4,h6⟩
 ·have:=n2 hw
  rw[show decide (0<N/2 ^k)=true by simpa using hq,Bool.or_true] at this
  exact⟨_,out,true,this,h3.putLost true,h4.out 803 _ (.inr (by omega)),h6.set 803 _⟩
theorem J9v {w:World} {cs:Array Value} (hO:J41 a) (hA:J7n cs a ng) (k:Nat) (h1:1<=k) (h2:k<=60) (hdp: -1000000000<=a.dp/\a.dp<=1000000000) (hS:J3 w0 [] w ((b,J13 cs)::r)):
 Calls Tryz.prog 298 #[ptr b,.int .u64 k] w (J6t w0 r b (a.right k) ng):=by
 obtain⟨ds,dp,lost⟩:=a
 have hten:=hO.ten;have hlen:=hO.len;obtain⟨d0,es,hds,hd0⟩:=hO.head
 simp only at hten hlen hds hdp
 have hAt:=hA.at_;have hDg:=hA.dig;simp only at hAt hDg
 have hpos:0<ds.length:=by rw[hds];simp
 have hhd:∀d,ds[0]? =some d->1<=d:=fun d h=>by rw[hds] at h;simp at h;omega
 obtain⟨n,hn⟩:∃n,ds.length=n:=⟨_,rfl⟩
 have W:=hAt.walk hS;rw[hn] at W hlen hpos;have c0:=W.c0;have c1:=W.c1;have fz:=W.fz;have hlt:=W.lt;have hp60:(2:Nat) ^k<=1152921504606846976:=Nat.pow_le_pow_right (by decide) h2
 have hcell:∀i d,ds[i]? =some d->w.cell? ⟨b,i,none⟩=some (.int .u8 ((48+d:Nat):Int)):=fun i d h=>by
  have:=hDg.cell hS h
  rwa[Nat.zero_add] at this
 have hdivI:∀N:Nat,(N:Int)/2 ^k=((N/2 ^k:Nat):Int):=fun N=>by
  rw[show(2:Int) ^k=((2 ^k:Nat):Int) by simp];simp
 have hst0:Jh1 k ds 0 0:=⟨Nat.zero_le _,by have:0<2 ^k:=Nat.pow_pos (by decide);omega,fun _=>rfl,fun h=>absurd h (by decide),rfl⟩
 replace hst0:=hid hst0;replace hdivI:=hid hdivI;replace hcell:=hid hcell;replace hten:=hid hten;replace hds:=hid hds;replace hhd:=hid hhd;replace hn:=hid hn;replace hp60:=hid hp60;replace hAt:=hid hAt;replace hDg:=hid hDg;have hS0:=hid hS;clear hS W hA hO;go_enter Tryz.func298,Tryz.ntmps298;go_upto_block 0 with fail;go_cut [4,6] from 12 to 48 (fun s4 s6 wx=>∃N R:Nat,s6= .int .u64 N/\s4= .int .i64 R/\Hid (Jy2 k ds N R)/\wx=w)
 case first=>
  go_wp2_with fail;go_loop [4,6] (fun s4 s6=>∃N R:Nat,s6= .int .u64 N/\s4= .int .i64 R/\R<=n/\Hid (Jh1 k ds N R)) (fun s4 _=>801 - (intOf s4).toNat)
  case atStart=>exact⟨0,0,rfl,rfl,Nat.zero_le _,hst0⟩
  case round=>
   obtain⟨N,R,rfl,rfl,hRn,hI⟩:=hrel
   have hN9:=hI.out.2.1;have hpk:=hp60.out;obtain⟨P,hP⟩:∃P,2 ^k=P:=⟨_,rfl⟩
   rw[hP] at hN9 hpk;by_cases hz:N/2 ^k=0
   ·have hzt:((N:Int)/2 ^k==0)=true:=by rw[hdivI.out,hz];rfl
    have hN8:N<1152921504606846976:=by
     rcases(Nat.div_eq_zero_iff).1 hz with h|h<;>omega
    by_cases hR:R<n
    ·obtain⟨d,hd⟩:∃d,ds[R]? =some d:=⟨_,List.getElem?_eq_getElem (by rw[hn.out];exact hR)⟩
     have hd10:=hten.out d (List.mem_of_getElem? hd);have hnx:=hid (hI.out.next hd hd10 (fun h0=>hhd.out d (by rw[<-h0];exact hd)) hz)
     have cd:=hcell.out R d hd;have hR1:¬(n:Int)<=(R:Int):=by omega
     have hR2:¬n<=R:=by omega
     have hR3:(R:Int)<800:=by omega
     have hR4:R<800:=by omega
     replace hz:=hid hz;replace hd:=hid hd;replace hP:=hid hP;clear hI hN9;go_wp2_with fail;go_round
     case rel=>exact⟨N*10+d,R+1,by simp;omega,by go_num,by omega,hnx⟩
     case measure=>simp[intOf];omega
    ·have hR1:(n:Int)<=(R:Int):=by omega
     have hpad:=hid (hI.out.pad (by rw[hn.out];omega) h2 (by rw[hn.out];omega) (by rw[hn.out];omega))
     have hN1:=hI.out.2.2.2.1 (by omega)
     have hN2:((N:Int)==0)=false:=by simp;omega
     have hN3:(N==0)=false:=by simp;omega
     replace hz:=hid hz;replace hP:=hid hP;clear hI hN9;go_wp2_with fail;go_loop [4,6] (fun s4 s6=>∃N R:Nat,s6= .int .u64 N/\s4= .int .i64 R/\R<=890/\Hid (Jlx k ds N R)) (fun s4 _=>901 - (intOf s4).toNat)
     case atStart=>exact⟨N,R,rfl,rfl,by omega,hpad⟩
     case round=>
      clear hzt hN2 hN3 hpad;obtain⟨N,R,rfl,rfl,hRn,hI⟩:=hrel
      by_cases hz:N/2 ^k=0
      ·have hzt:((N:Int)/2 ^k==0)=true:=by rw[hdivI.out,hz];rfl
       have hN8:N<1152921504606846976:=by
        rcases(Nat.div_eq_zero_iff).1 hz with h|h
        ·have:=Nat.pow_pos (n:=k) (show 0<2 by decide);omega
        ·have:=hp60.out;omega
       have hnx:=hid (hI.out.next hz);have hR9:R+1<=890:=by obtain⟨f,_,_,_,h4,_⟩:=hnx.out;omega
       replace hz:=hid hz;clear hI;go_wp2_with fail;go_round
       case rel=>exact⟨N*10,R+1,by simp,by go_num,hR9,hnx⟩
       case measure=>simp[intOf];omega
      ·have hzt:((N:Int)/2 ^k==0)=false:=by rw[hdivI.out];simp only[beq_eq_false_iff_ne,ne_eq];omega
       have hg:=hid (hI.out.got hz);replace hz:=hid hz;clear hI;go_wp2_with fail;go_meet
       exact⟨N,R,rfl,rfl,hg,rfl⟩
   ·have hzt:((N:Int)/2 ^k==0)=false:=by rw[hdivI.out];simp only[beq_eq_false_iff_ne,ne_eq];omega
    have hg:=hid (hI.out.got (by rw[hn.out];exact hlen) hz)
    replace hz:=hid hz;replace hP:=hid hP;clear hI hN9;go_wp2_with fail;go_meet
    exact⟨N,R,rfl,rfl,hg,rfl⟩
 case rest=>
  obtain⟨N,R,rfl,rfl,hG,rfl⟩:=hcut
  obtain⟨hR1,hR9,hN9,hpick⟩:=hG.out
  clear hst0 hhd;have hdd:=hDg.out.drop R;rw[Nat.zero_add] at hdd;have hM0:Jsa k ds (J9s k (ds.drop R) N []) N R 0 []:=⟨rfl,by omega,hN9,rfl⟩
  have hW0:Jir w0 (wc.setCell ⟨b,801,none⟩ (.int .i64 (dp - ((R:Int) - 1)))) r b k ds n (dp - ((R:Int) - 1)) ng lost (J9s k (ds.drop R) N []) N R 0:=
   ⟨_,[],hM0,.inr rfl,by rw[<-hn.out];exact hAt.out.putDp _,fun i d h=>by simp at h,by
    rcases Nat.lt_or_ge n R with h|h
    ·rw[List.drop_eq_nil_of_le (by rw[hn.out];omega)];exact fun i d h=>by simp at h
    ·exact hdd.out 801 _ (.inr (by have:=hn.out;simp;omega)),hS0.out.set 801 _⟩
  obtain⟨T,hT⟩:∃T,T=J9s k (ds.drop R) N []:=⟨_,rfl⟩
  rw[<-hT] at hW0
  have hfinal:(⟨ds,dp,lost⟩:Dc).right k=Jui ⟨ds,dp,lost⟩ R (Jbi k (k+2) T.1 T.2 lost):=by
   unfold Dc.right Jd9;simp only[hpick,<-hT]
  obtain⟨dp',hdp'⟩:∃dp',dp - ((R:Int) - 1)=dp':=⟨_,rfl⟩
  obtain⟨T3,hT3⟩:∃T3,Jbi k (k+2) T.1 T.2 lost=T3:=⟨_,rfl⟩
  have hfinal2:(⟨ds,dp,lost⟩:Dc).right k=Dc.trim ⟨T3.1,dp',T3.2⟩:=by
   rw[hfinal,hT3];unfold Jui;simp only[hdp']
  have hd1: -1000001000<=dp':=by omega
  have hd2:dp'<=1000001000:=by omega
  rw[hdp'] at hW0;replace hfinal2:=hid hfinal2;replace hW0:=hid hW0;replace hpick:=hid hpick;replace hT:=hid hT;replace hT3:=hid hT3;clear hdd hM0 hcell hN9 hG hS0 hfinal;obtain⟨M,hM⟩:∃M,2 ^k - 1=M:=⟨_,rfl⟩
  have hmask:IntKind.u64.wrap (IntKind.u64.wrap ((2:Int) ^k) - 1)=(M:Int):=by
   have h0:0<2 ^k:=Nat.pow_pos (by decide)
   have h9:=hp60.out;rw[show(2:Int) ^k=((2 ^k:Nat):Int) by simp,IntKind.wrap_u64,IntKind.wrap_u64,<-hM]
   omega
  have hand:∀N:Nat,N<18446744073709551616->bits .and .u64 (N:Int) (M:Int)=((N%2 ^k:Nat):Int):=fun N h=>by
   rw[<-hM];exact Jh7 N k h h2
  replace hand:=hid hand;replace hM:=hid hM;go_wp2_with fail;clear hmask c1;go_loopw [4,5,6] (fun s4 s5 s6 wr=>∃R W N:Nat,s4= .int .i64 R/\s5= .int .i64 W/\s6= .int .u64 N/\Hid (Jir w0 wr r b k ds n dp' ng lost T N R W)) (fun s4 _ _ _=>901 - (intOf s4).toNat)
  case atStart=>exact⟨R,0,N,rfl,rfl,rfl,hW0⟩
  case round=>
   clear c0 fz hW0;obtain⟨R,W,N,rfl,rfl,rfl,hI⟩:=hrel
   obtain⟨cs',out,hI1,hI2,hI3,hI4,hI5,hI6⟩:=hI.out
   have WW:=hI3.walk hI6;have c0:=WW.c0;have fz:=WW.fz;have hlt:=WW.lt;by_cases hR:R<n
   ·obtain⟨d,hd⟩:∃d,ds[R]? =some d:=⟨_,List.getElem?_eq_getElem (by rw[hn.out];exact hR)⟩
    have hd10:=hten.out d (List.mem_of_getElem? hd);have cd:=hI5.cell (i:=0) (d:=d) hI6 (by rw[List.getElem?_drop];exact hd)
    rw[Nat.add_zero] at cd;have hnx:=hI.out.next (by rw[hn.out];exact hlen) hd hd10
    obtain⟨v,cw⟩:=hI3.some_ hI6 W (by have:=hI1.2.1;omega)
    have hN9:=hI1.2.2.1;have hWR:=hI1.2.1;have hp9:=hp60.out
    have hq9:N/2 ^k<=9:=by
     have:=(Nat.div_lt_iff_lt_mul (show 0<2 ^k from Nat.pow_pos (by decide))).2 (show N<10*2 ^k by omega)
     omega
    have hm9:N%2 ^k<1152921504606846976:=Nat.lt_of_lt_of_le (Nat.mod_lt _ (Nat.pow_pos (by decide))) hp9
    have hdv:=hdivI.out N;have hnd:=hand.out N (by omega)
    obtain⟨q,hq⟩:∃q,N/2 ^k=q:=⟨_,rfl⟩
    obtain⟨m,hm⟩:∃m,N%2 ^k=m:=⟨_,rfl⟩
    rw[hq] at hnx hq9 hdv;rw[hm] at hnx hm9 hnd;have hR1:(R:Int)<(n:Int):=by omega
    have hR3:(R:Int)<800:=by omega
    have hW3:(W:Int)<800:=by omega
    have hW4:W<800:=by omega
    have hR4:R<800:=by omega
    replace hnx:=hid hnx;replace hd:=hid hd;replace hq:=hid hq;replace hm:=hid hm;clear hI hI1 hI2 hI3 hI4 hI5 hI6 WW hN9 hp9 hd10;have hd10:=hten.out d (List.mem_of_getElem? hd.out);go_wp2_with fail;go_roundw
    case rel=>exact⟨R+1,W+1,m*10+d,by go_num,by go_num,by simp;omega,hnx⟩
    case measure=>simp[intOf];omega
   ·have hR1:¬(R:Int)<(n:Int):=by omega
    have hTe:T=(N,out):=by
     have:=hI1.2.2.2
     rw[List.drop_eq_nil_of_le (by rw[hn.out];omega),J9s] at this
     exact this.symm
    have hE0:Jdl w0 wr r b k n dp' ng T3 (k+2) N W:=by
     refine⟨cs',out,lost,⟨0,by omega,fun _=>by simp,fun h=>absurd h (by omega),hI1.1,?_,hI1.2.2.1,?_⟩,hI3,hI4,hI6⟩
     ·have:=hI1.2.1
      have h9:=hn.out;rcases hI2 with h|h<;>omega
     ·rw[<-hT3.out,hTe]
    replace hE0:=hid hE0;replace hTe:=hid hTe;clear hI hI1 hI2 hI3 hI4 hI5 hI6 WW;go_wp2_with fail;clear c0 fz hlt;go_loopg [5,6] (k+2) (fun g s5 s6 wr=>∃W N:Nat,s5= .int .i64 W/\s6= .int .u64 N/\Hid (Jdl w0 wr r b k n dp' ng T3 g N W))
    case atStart=>exact⟨W,N,rfl,rfl,hE0⟩
    case round=>
     clear hE0 hTe;obtain⟨W,N,rfl,rfl,hI⟩:=hrel
     obtain⟨cs',out,lost',hI1,hI3,hI4,hI6⟩:=hI.out
     have WW:=hI3.walk hI6;have c0:=WW.c0;have c3:=WW.c3;have fz:=WW.fz;have hlt:=WW.lt;have hW8:W<=800:=by obtain⟨j,_,_,_,_,h,_⟩:=hI1;exact h
     by_cases hN:N=0
     ·have hTe:=(show Jiq k T3 gk 0 W out lost' by rw[<-hN];exact hI1).done
      have hWl:out.length=W:=by obtain⟨j,_,_,_,h,_⟩:=hI1;exact h
      subst hN;have S1:=hI6.set 800 (.int .i64 W);have hA1:=hI3.putNd W;have hD1:=hI4.out 800 (.int .i64 W) (.inr (by omega))
      have hA2:J2v (cs'.setIfInBounds 800 (.int .i64 W)) out.length dp' ng lost':=by rw[hWl];exact hA1
      have htr:=Jf4 (l:=out) (dp:=dp') (ng:=ng) (lost:=lost') hA2 hD1 (by omega) S1
      have hfe:(⟨ds,dp,lost⟩:Dc).right k=Dc.trim ⟨out,dp',lost'⟩:=by rw[hfinal2.out,hTe]
      replace htr:=hid htr;replace hfe:=hid hfe;clear hI hI1 hI3 hI4 hI6 WW S1 hA1 hA2 hD1 hTe hWl;go_wp2_with fail;refine htr.out.mono ?_;rintro e w9 ⟨rfl,hX⟩;go_wp2_with fail;go_end0
      refine⟨rfl,?_⟩
      rw[hfe.out];exact hX
     ·obtain⟨g,rfl,n1,n2,n3⟩:=hI.out.next hN
      have hN9:N<2 ^k*10:=by obtain⟨j,_,_,_,_,_,h,_⟩:=hI1;exact h
      have hp9:=hp60.out
      have hq9:N/2 ^k<=9:=by
       have:=(Nat.div_lt_iff_lt_mul (show 0<2 ^k from Nat.pow_pos (by decide))).2 (show N<10*2 ^k by omega)
       omega
      have hm9:N%2 ^k<1152921504606846976:=Nat.lt_of_lt_of_le (Nat.mod_lt _ (Nat.pow_pos (by decide))) hp9
      have hdv:=hdivI.out N;have hnd:=hand.out N (by omega)
      obtain⟨q,hq⟩:∃q,N/2 ^k=q:=⟨_,rfl⟩
      obtain⟨m,hm⟩:∃m,N%2 ^k=m:=⟨_,rfl⟩
      rw[hq] at n1 n2 n3 hq9 hdv;rw[hm] at n1 n2 n3 hm9 hnd;have hN1:(0:Int)<(N:Int):=by omega
      have hN2:0<N:=by omega
      replace hq:=hid hq;replace hm:=hid hm;replace hN:=hid hN;by_cases hw:W<800
      ·obtain⟨v,cw⟩:=hI3.some_ hI6 W hw
       have hnx:=hid (n1 hw);have hW3:(W:Int)<800:=by omega
       clear hI hI1 hI3 hI4 hI6 WW n1 n2 n3 hN9 hp9 c3;go_wp2_with fail;go_roundg g
       case measure=>omega
       case rel=>exact⟨W+1,m*10,by go_num,by simp,hnx⟩
      ·have hW3:¬(W:Int)<800:=by omega
       by_cases hq0:q=0
       ·subst hq0
        have hnx:=hid (n2 hw rfl);clear hI hI1 hI3 hI4 hI6 WW n1 n2 n3 hN9 hp9;go_wp2_with fail;go_roundg g
        case measure=>omega
        case rel=>exact⟨W,m*10,rfl,by simp,hnx⟩
       ·have hnx:=hid (n3 hw (by omega))
        have hq1:(0:Int)<(q:Int):=by omega
        have hq2:0<q:=by omega
        replace hq0:=hid hq0;clear hI hI1 hI3 hI4 hI6 WW n1 n2 n3 hN9 hp9;go_wp2_with fail;go_roundg g
        case measure=>omega
        case rel=>exact⟨W,m*10,rfl,by simp,hnx⟩
def Jlw (k:Nat) (ds:List Nat) (e:Nat) (T:Nat×Nat×List Nat×Bool) (N R:Nat) (out:List Nat) (lost:Bool):Prop:=
 R<=ds.length/\N<2 ^k/\J9k (ds.length+e) (R+e) out/\J42 k (ds.take R).reverse (R+e) N out lost=T
def Jio (m:Nat) (T:List Nat×Bool) (N W:Nat) (out:List Nat) (lost:Bool):Prop:=
 J9k m W out/\N<10 ^W/\(1<=W->10 ^(W - 1)<=N)/\Jb9 W W N out lost=T
theorem Jvf {l:List Nat} (h:l[k]? =some d):(l.take (k+1)).reverse=d::(l.take k).reverse:=by
 rw[List.take_add_one,h];simp
theorem Jlw.next {e:Nat} {T:Nat×Nat×List Nat×Bool} {out:List Nat} {lost:Bool} (h:Jlw k ds e T N (R+1) out lost) (hd:ds[R]? =some d) (hd10:d<10):
 (R+e<800->Jlw k ds e T ((N+d*2 ^k)/10) R ((N+d*2 ^k)%10::out) lost)/\(¬R+e<800->Jlw k ds e T ((N+d*2 ^k)/10) R out (lost||decide ((N+d*2 ^k)%10≠0))):=by
 obtain⟨h1,h2,h3,h4⟩:=h
 rw[Jvf hd,J42,show R+1+e - 1=R+e by omega] at h4
 have hb:d*2 ^k<=9*2 ^k:=Nat.mul_le_mul_right _ (by omega)
 constructor
 ·intro hw
  rw[if_pos hw] at h4;have:=h3.in_ (by omega) (by omega) (Nat.mod_lt (N+d*2 ^k) (by decide:10>0))
  rw[show R+1+e - 1=R+e by omega] at this
  exact⟨by omega,by omega,this,h4⟩
 ·intro hw
  rw[if_neg hw] at h4;have:=h3.out_ (by omega)
  rw[show R+1+e - 1=R+e by omega] at this
  exact⟨by omega,by omega,this,h4⟩
theorem Jio.next {out:List Nat} {lost:Bool} (h:Jio m T N W out lost) (hN:N≠0):
 ∃V,W=V+1/\(V<800->Jio m T (N/10) V (N%10::out) lost)/\(¬V<800->Jio m T (N/10) V out (lost||decide (N%10≠0))):=by
 obtain⟨h1,h2,h3,h4⟩:=h
 cases W with
 |zero=>simp at h2;omega
 |succ V=>
  have hlo:=h3 (by omega)
  rw[Nat.add_sub_cancel] at hlo;have a1:N/10<10 ^V:=by rw[Nat.pow_succ] at h2;omega
  have a2:1<=V->10 ^(V - 1)<=N/10:=fun hw=>by
   have e:10 ^V=10 ^(V - 1)*10:=by rw[<-Nat.pow_succ];congr 1;omega
   omega
  rw[Jb9,if_neg hN,Nat.add_sub_cancel] at h4;refine⟨V,rfl,fun hw=>?_,fun hw=>?_⟩
  ·rw[if_pos hw] at h4
   have:=h1.in_ (by omega) (by simpa using hw) (Nat.mod_lt N (by decide:10>0))
   rw[Nat.add_sub_cancel] at this;exact⟨this,a1,a2,h4⟩
  ·rw[if_neg hw] at h4
   have:=h1.out_ (by simpa using hw)
   rw[Nat.add_sub_cancel] at this;exact⟨this,a1,a2,h4⟩
theorem Jio.done {out:List Nat} {lost:Bool} (h:Jio m T 0 W out lost):W=0/\T=(out,lost)/\out.length=min m 800:=by
 obtain⟨h1,h2,h3,h4⟩:=h
 have hW:W=0:=by
  rcases Nat.eq_zero_or_pos W with h|h
  ·exact h
  ·have:=h3 h
   have:=Nat.pow_pos (n:=W - 1) (show 0<10 by decide)
   omega
 subst hW;rw[Jb9] at h4;exact⟨rfl,h4.symm,by have:=h1.len;omega⟩
def Jdk (w0 wr:World) (r:Hp) (b k:Nat) (ds:List Nat) (e nd:Nat) (dp:Int) (ng:Bool) (T:Nat×Nat×List Nat×Bool) (N R:Nat):Prop:=
 ∃cs out lost,Jlw k ds e T N R out lost/\J2v cs nd dp ng lost/\J1o cs (R+e) out/\J1o cs 0 (ds.take R)/\J3 w0 [] wr ((b,J13 cs)::r)
def Jdj (w0 wr:World) (r:Hp) (b m nd:Nat) (dp:Int) (ng:Bool) (T:List Nat×Bool) (N W:Nat):Prop:=
 ∃cs out lost,Jio m T N W out lost/\J2v cs nd dp ng lost/\J1o cs W out/\J3 w0 [] wr ((b,J13 cs)::r)
theorem Jdk.next {e:Nat} {T:Nat×Nat×List Nat×Bool} (h:Jdk w0 wr r b k ds e nd dp ng T N (R+1)) (hl:ds.length<=800) (hd:ds[R]? =some d) (hd10:d<10):
 (R+e<800->Jdk w0 (wr.setCell ⟨b,R+e,none⟩ (.int .u8 (((N+d*2 ^k)%10:Nat)+48))) r b k ds e nd dp ng T ((N+d*2 ^k)/10) R)/\
 (¬R+e<800->(N+d*2 ^k)%10=0->Jdk w0 wr r b k ds e nd dp ng T ((N+d*2 ^k)/10) R)/\
 (¬R+e<800->(N+d*2 ^k)%10≠0->Jdk w0 (wr.setCell ⟨b,803,none⟩ (.bool true)) r b k ds e nd dp ng T ((N+d*2 ^k)/10) R):=by
 obtain⟨cs,out,lost,h1,h3,h4,h5,h6⟩:=h
 obtain⟨n1,n2⟩:=h1.next hd hd10
 have hR:=h1.1;have hsz:=h3.size
 have h5':J1o cs 0 (ds.take R):=by
  have:=h5.take R
  rwa[List.take_take,Nat.min_eq_left (by omega)] at this
 have ho:=h1.2.2.1;rw[show R+1+e=R+e+1 by omega] at h4 ho
 have ho2:¬R+e<800->out=[]:=fun hw=>List.eq_nil_of_length_eq_zero (by have:=ho.len;omega)
 refine⟨fun hw=>?_,fun hw hq=>?_,fun hw hq=>?_⟩
 ·rw[Jd3 (q:=(N+d*2 ^k)%10) rfl]
  exact⟨cs.setIfInBounds (R+e) (dgv ((N+d*2 ^k)%10)),_,_,n1 hw,h3.put _ hw _,h4.cons (by omega) _,h5'.out _ _ (.inr (by simp;omega)),h6.set _ _⟩
 ·have:=n2 hw
  rw[hq,show decide (0≠0)=false from rfl,Bool.or_false] at this;exact⟨cs,out,lost,this,h3,by rw[ho2 hw];exact fun i d hj=>by simp at hj,h5',h6⟩
 ·have:=n2 hw
  rw[show decide ((N+d*2 ^k)%10≠0)=true by simpa using hq,Bool.or_true] at this
  exact⟨_,out,true,this,h3.putLost true,by rw[ho2 hw];exact fun i d hj=>by simp at hj,h5'.out 803 _ (.inr (by simp;omega)),h6.set 803 _⟩
theorem Jdj.next (h:Jdj w0 wr r b m nd dp ng T N W) (hN:N≠0):
 ∃V,W=V+1/\(V<800->Jdj w0 (wr.setCell ⟨b,V,none⟩ (.int .u8 ((N%10:Nat)+48))) r b m nd dp ng T (N/10) V)/\
  (¬V<800->N%10=0->Jdj w0 wr r b m nd dp ng T (N/10) V)/\
  (¬V<800->N%10≠0->Jdj w0 (wr.setCell ⟨b,803,none⟩ (.bool true)) r b m nd dp ng T (N/10) V):=by
 obtain⟨cs,out,lost,h1,h3,h4,h6⟩:=h
 obtain⟨V,rfl,n1,n2⟩:=h1.next hN
 have hsz:=h3.size;have ho:=h1.1;have ho2:¬V<800->out=[]:=fun hw=>List.eq_nil_of_length_eq_zero (by have:=ho.len;omega)
 refine⟨V,rfl,fun hw=>?_,fun hw hq=>?_,fun hw hq=>?_⟩
 ·rw[Jd3 (q:=N%10) rfl]
  exact⟨cs.setIfInBounds V (dgv (N%10)),_,_,n1 hw,h3.put _ hw _,h4.cons (by omega) _,h6.set _ _⟩
 ·have:=n2 hw
  rw[hq,show decide (0≠0)=false from rfl,Bool.or_false] at this;exact⟨cs,out,lost,this,h3,by rw[ho2 hw];exact fun i d hj=>by simp at hj,h6⟩
 ·have:=n2 hw
  rw[show decide (N%10≠0)=true by simpa using hq,Bool.or_true] at this
  exact⟨_,out,true,this,h3.putLost true,by rw[ho2 hw];exact fun i d hj=>by simp at hj,h6.set 803 _⟩
theorem Jmo (hO:J41 a) (k:Nat):Jlw k a.ds (J1j a k) (J42 k a.ds.reverse (a.ds.length+J1j a k) 0 [] a.lost) 0 a.ds.length [] a.lost:=
 ⟨Nat.le_refl _,Nat.pow_pos (by decide),⟨Nat.le_refl _,by simp;omega,by simp⟩,by rw[List.take_length]⟩
theorem Jts (hO:J41 a) (h1:1<=k) (h2:k<=60) {out:List Nat} {lost:Bool} (h:Jlw k a.ds (J1j a k) (J42 k a.ds.reverse (a.ds.length+J1j a k) 0 [] a.lost) N 0 out lost):
 ∃T,a.left k=Dc.trim ⟨T.1,a.dp+J1j a k,T.2⟩/\Jio (a.ds.length+J1j a k) T N (J1j a k) out lost:=by
 obtain⟨f1,f2,_⟩:=J55 hO h1 h2
 obtain⟨_,_,g3,g4⟩:=h
 rw[Nat.zero_add] at g3 g4;simp only[List.take_zero,List.reverse_nil,J42] at g4;have hc:=J9o k a.ds.reverse (a.ds.length+J1j a k) 0 [] a.lost;simp only[List.length_reverse,List.reverse_reverse,Nat.zero_add] at hc;rw[<-g4] at hc;simp only at hc
 refine⟨Jb9 (J1j a k) (J1j a k) N out lost,?_,g3,?_,?_,rfl⟩
 ·unfold Dc.left Jht Jym
  rw[<-g4]
 ·rw[hc,Nat.div_lt_iff_lt_mul (Nat.pow_pos (by decide)),<-Nat.pow_add,Nat.add_comm (J1j a k)];exact f1
 ·intro hd
  rw[hc,Nat.le_div_iff_mul_le (Nat.pow_pos (by decide)),<-Nat.pow_add]
  have e:10 ^(a.ds.length+J1j a k)=10 ^(J1j a k - 1+a.ds.length)*10:=by rw[<-Nat.pow_succ];congr 1;omega
  omega
structure Jfi (w:World):Prop where
 at_:∃lb lq c,w.cell? ⟨17,0,none⟩=some (.slice (some ⟨lb,lq,none⟩) 61 c)/\∀k,k<61->w.cell? ⟨lb,lq+k*2,none⟩=some (.int .i64 (J3n k).1)/\∃s,w.cell? ⟨lb,lq+k*2+1,none⟩=some (.string s)/\Jz9 s (J3n k).2
end Go.Proofs.YtncbcaabanoeoaaGreatDoor
