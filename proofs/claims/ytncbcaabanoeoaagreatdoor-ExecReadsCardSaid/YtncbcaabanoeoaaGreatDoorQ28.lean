/-
strconv.leftShift, walked.
-/
import Derived.Lib.ConvBytes
import Derived.Test.YtncbcaabanoeoaaGreatDoorQ01
import Derived.Test.YtncbcaabanoeoaaGreatDoorQ16
import Derived.Test.YtncbcaabanoeoaaGreatDoorQ26
import Derived.Test.YtncbcaabanoeoaaGreatDoorQ27
set_option linter.unusedVariables false
set_option linter.unusedSimpArgs false
set_option maxRecDepth 100000
set_option maxHeartbeats 8000000
namespace Go.Proofs.YtncbcaabanoeoaaGreatDoor
open Go Go.RowKit
variable {w0 w:World}{r:Hp}{b:Nat}{cs:Array Value}{a:Dc}{ng:Bool}{s:ByteArray}
theorem Jms (hG:Jfi w0) (hO:J41 a) (hA:J7n cs a ng) (k:Nat) (h1:1<=k) (h2:k<=60) (hdp: -1000000000<=a.dp/\a.dp<=1000000000) (hS:J3 w0 [] w ((b,J13 cs)::r)):
 Calls Tryz.prog 297 #[ptr b,.int .u64 k] w (J6t w0 r b (a.left k) ng):=by
 obtain⟨e,he⟩:∃e,J1j a k=e:=⟨_,rfl⟩
 have hbeg:=Jmo hO k;have hend:=fun N out lost=>Jts hO h1 h2 (N:=N) (out:=out) (lost:=lost)
 have hde:=(J55 hO h1 h2).2.2;have hdel:(J3n k).1 - (if J1r a.ds (J3n k).2 then 1 else 0)=e:=he
 rw[he] at hbeg hde;simp only[he] at hend;obtain⟨T,hT⟩:∃T,T=J42 k a.ds.reverse (a.ds.length+e) 0 [] a.lost:=⟨_,rfl⟩
 rw[<-hT] at hbeg;simp only[<-hT] at hend;obtain⟨T0,hT0⟩:∃T0,T0=a.left k:=⟨_,rfl⟩
 rw[<-hT0];simp only[<-hT0] at hend;obtain⟨L,hL,hL1,hLk,-⟩:=Jc2 h1 h2
 have hc1:1<=(J3n k).1/\(J3n k).1<=61:=by unfold J3n;rw[if_neg (by omega)];simp only;omega
 obtain⟨ds,dp,lost⟩:=a
 have hten:=hO.ten;have hlen:=hO.len;obtain⟨lb,lq,lc,hg,hgk⟩:=hG.at_
 obtain⟨hg1,s,hg2,hCut⟩:=hgk k (by omega)
 have hAt:=hA.at_;have hDg:=hA.dig;simp only at hten hlen hdp hAt hDg hbeg hend hdel
 obtain⟨n,hn⟩:∃n,ds.length=n:=⟨_,rfl⟩
 have W:=hAt.walk hS;rw[hn] at W hlen;have c0:=W.c0;have fz:=W.fz;have hlt:=W.lt;have q1:=K4 hS hg;have q2:=K4 hS hg1;have q3:=K4 hS hg2;have hlenI:(n:Int)<=800:=by omega
 have hk61:k<61:=by omega
 have hk61':(k:Int)<61:=by omega
 have hpre:=fun q=>Jn2 hCut hDg (by rw[hn];exact hlen) hten (hS.drewN q)
 rw[hn] at hpre;have hp60:(2:Nat) ^k<=1152921504606846976:=Nat.pow_le_pow_right (by decide) h2
 obtain⟨g,hgq⟩:∃g,(J3n k).1=g:=⟨_,rfl⟩
 obtain⟨p,hp⟩:∃p,J1r ds (J3n k).2=p:=⟨_,rfl⟩
 rw[hgq] at q2 hc1 hdel;rw[hp] at hpre hdel
 have hM0:∀q,Jdk w0 (w.drewN q) r b k ds e n dp ng T 0 n:=fun q=>by
  refine⟨cs,[],lost,by rw[<-hn];exact hbeg,by rw[<-hn];exact hAt,fun i d hj=>by simp at hj,by rw[<-hn,List.take_length];exact hDg,hS.drewN q⟩
 replace hM0:=hid hM0;replace hend:=hid hend;replace hpre:=hid hpre;replace hp60:=hid hp60;replace hten:=hid hten;replace hT:=hid hT;replace hT0:=hid hT0;replace hn:=hid hn;replace hp:=hid hp;replace hgq:=hid hgq;replace he:=hid he;clear W hG hg hgk hg1 hg2 hCut hA hO hL hL1 hLk hbeg hS hAt hDg;go_enter Tryz.func297,Tryz.ntmps297;go_wp2_with fail;go_quiet ((go_at_call 304;exact Calls.quiet_of (hpre.out _)));have hM1:=hid (hM0.out nq);generalize w.drewN nq=w1 at hM1⊢;clear c0 fz hlt q1 q2 q3 hpre hM0;obtain⟨cs1,out1,lost1,i1,i2,i3,i4,i5⟩:=hM1.out
 have c0:=(i2.walk i5).c0;clear i1 i2 i3 i4 i5;go_upto_if 30 with fail;go_cut [4] from 31 to 32 (fun s4 wx=>s4= .int .i64 e/\wx=w1)
 case first=>
  cases p with
  |true=>
   have hz:(g:Int) - 1=(e:Int):=by simp at hdel;omega
   replace hdel:=hid hdel;go_wp2_with fail;go_meet
   exact⟨rfl,rfl⟩
  |false=>
   have hz:(g:Int)=(e:Int):=by simp at hdel;omega
   replace hdel:=hid hdel;replace hz:=hid hz;go_wp2_with fail;go_meet
   exact⟨by rw[hz.out],rfl⟩
 case rest=>
  obtain⟨rfl,rfl⟩:=hcut
  replace hdel:=hid hdel;clear hc1;go_wp2_with fail;clear c0;go_loopw [5,6,7] (fun s5 s6 s7 wr=>∃(R N:Nat) (t u:Int),s5= .int .i64 t/\t+1=(R:Int)/\s6= .int .i64 u/\u=(R:Int)+(e:Int)/\s7= .int .u64 N/\R<=n/\Hid (Jdk w0 wr r b k ds e n dp ng T N R)) (fun s5 _ _ _=>(intOf s5+1).toNat)
  case atStart=>exact⟨n,0,(n:Int) - 1,(n:Int)+(e:Int),rfl,by omega,rfl,rfl,rfl,Nat.le_refl _,hM1⟩
  case round=>
   clear hM1;obtain⟨R,N,t,u,rfl,ht,rfl,hu,rfl,hRn,hI⟩:=hrel
   obtain⟨cs',out,lost',hI1,hI3,hI4,hI5,hI6⟩:=hI.out
   have WW:=hI3.walk hI6;have c0:=WW.c0;have c1:=WW.c1;have c3:=WW.c3;have fz:=WW.fz;have hlt:=WW.lt;cases R with
   |zero=>
    obtain rfl:t= -1:=by omega
    obtain rfl:u=(e:Int):=by omega
    clear ht hu;obtain⟨T',hT',hE⟩:=hend.out N out lost' hI1
    have hE0:Jdj w0 wr r b (n+e) n dp ng T' N e:=⟨cs',out,lost',by rw[<-hn.out];exact hE,hI3,by rw[Nat.zero_add] at hI4;exact hI4,hI6⟩
    have hN9:N<2 ^k:=hI1.2.1;have hp9:=hp60.out;have hN8:N<=1152921504606846976:=by omega
    replace hT':=hid hT';replace hE0:=hid hE0;clear hI hI1 hI3 hI4 hI5 hI6 WW hE hN9 hp9;go_wp2_with fail;clear c0 c1 c3 fz hlt;go_loopw [6,7] (fun s6 s7 wr=>∃W N:Nat,s6= .int .i64 W/\s7= .int .u64 N/\N<=1152921504606846976/\W<=60/\Hid (Jdj w0 wr r b (n+e) n dp ng T' N W)) (fun s6 _ _=>(intOf s6).toNat)
    case atStart=>exact⟨e,N,rfl,rfl,hN8,hde,hE0⟩
    case round=>
     clear hE0 hN8;obtain⟨W,N,rfl,rfl,hN8,hW9,hI⟩:=hrel
     obtain⟨cs',out,lost',hI1,hI3,hI4,hI6⟩:=hI.out
     have WW:=hI3.walk hI6;have c0:=WW.c0;have c1:=WW.c1;have c3:=WW.c3;have fz:=WW.fz;have hlt:=WW.lt;by_cases hN:N=0
     ·subst hN
      obtain⟨rfl,hTe,hol⟩:=hI1.done
      obtain⟨m,hm⟩:∃m,n+e=m:=⟨_,rfl⟩
      rw[hm] at hol;have hfe:T0=Dc.trim ⟨out,dp+(e:Nat),lost'⟩:=by rw[hT'.out,hTe]
      have hme:(n:Int)+(e:Int)=(m:Int):=by omega
      have hm9:m<=860:=by omega
      replace hfe:=hid hfe;by_cases hm8:800<=m
      ·have S1:=((hI6.set 800 (.int .i64 m)).set 800 (.int .i64 (800:Nat))).set 801 (.int .i64 (dp+e))
       have hA1:=((hI3.putNd m).putNd 800).putDp (dp+e);have hD1:=((hI4.out 800 (.int .i64 m) (.inr (by omega))).out 800 (.int .i64 (800:Nat)) (.inr (by omega))).out 801 (.int .i64 (dp+e)) (.inr (by omega))
       have hol2:out.length=800:=by omega
       rw[<-hol2] at hA1;have htr:=hid (Jf4 (l:=out) (ng:=ng) (lost:=lost') (by rw[hol2] at hA1⊢;exact hA1) hD1 (by omega) S1)
       replace hol:=hid hol;replace hol2:=hid hol2;replace hm:=hid hm;have hm7:(800:Int)<=(m:Int):=by omega
       clear hI hI1 hI3 hI4 hI6 WW S1 hA1 hD1 hTe;go_upto_region 28 with fail;rw[hme];clear hme;go_upto_region 29 with fail;go_wp2_with fail;refine htr.out.mono ?_;rintro e9 w9 ⟨rfl,hX⟩;go_wp2_with fail;go_end0
       refine⟨rfl,?_⟩
       rw[hfe.out];exact hX
      ·have S1:=(hI6.set 800 (.int .i64 m)).set 801 (.int .i64 (dp+e))
       have hA1:=(hI3.putNd m).putDp (dp+e);have hD1:=(hI4.out 800 (.int .i64 m) (.inr (by omega))).out 801 (.int .i64 (dp+e)) (.inr (by omega))
       have hol2:out.length=m:=by omega
       rw[<-hol2] at hA1;have htr:=hid (Jf4 (l:=out) (ng:=ng) (lost:=lost') (by rw[hol2] at hA1⊢;exact hA1) hD1 (by omega) S1)
       replace hol:=hid hol;replace hol2:=hid hol2;replace hm:=hid hm;have hm7:¬(800:Int)<=(m:Int):=by omega
       clear hI hI1 hI3 hI4 hI6 WW S1 hA1 hD1 hTe;go_upto_region 28 with fail;rw[hme];clear hme;go_wp2_with fail;refine htr.out.mono ?_;rintro e9 w9 ⟨rfl,hX⟩;go_wp2_with fail;go_end0
       refine⟨rfl,?_⟩
       rw[hfe.out];exact hX
     ·obtain⟨V,rfl,n1,n2,n3⟩:=hI.out.next hN
      obtain⟨Q,hQ⟩:∃Q,N/10=Q:=⟨_,rfl⟩
      obtain⟨M,hM⟩:∃M,N%10=M:=⟨_,rfl⟩
      rw[hQ,hM] at n1 n2 n3;have hQ1:(N:Int)/10=(Q:Int):=by omega
      have hM1:(N:Int) - 10*(Q:Int)=(M:Int):=by omega
      have hM9:M<=9:=by omega
      have hQ9:Q<=115292150460684698:=by omega
      have hN1:(0:Int)<(N:Int):=by omega
      have hN2:0<N:=by omega
      have hw:V<800:=by omega
      have hW3:(V:Int)<800:=by omega
      obtain⟨v,cw⟩:=hI3.some_ hI6 V hw
      have hnx:=hid (n1 hw);replace hQ:=hid hQ;replace hM:=hid hM;replace hN:=hid hN;replace hM1:=hid hM1;replace hQ1:=hid hQ1;clear hI hI1 hI3 hI4 hI6 WW n1 n2 n3 c3;go_upto_region 20 with fail;rw[hQ1.out];clear hQ1;go_upto_region 21 with fail;rw[hM1.out];clear hM1;go_wp2_with fail;go_roundw
      case rel=>exact⟨V,Q,by go_num,rfl,by omega,by omega,hnx⟩
      case measure=>simp[intOf]
   |succ R=>
    obtain rfl:t=(R:Int):=by omega
    obtain⟨V,hV⟩:∃V,R+e=V:=⟨_,rfl⟩
    obtain rfl:u=((V+1:Nat):Int):=by omega
    clear ht hu;obtain⟨d,hd⟩:∃d,ds[R]? =some d:=⟨_,List.getElem?_eq_getElem (by rw[hn.out];omega)⟩
    have hd10:=hten.out d (List.mem_of_getElem? hd);obtain⟨n1,n2,n3⟩:=hI.out.next (by rw[hn.out];exact hlen) hd hd10
    have cd:=hI5.cell (i:=R) (d:=d) hI6 (by rw[List.getElem?_take,if_pos (by omega)];exact hd)
    rw[Nat.zero_add] at cd;have hN9:=hI1.2.1;have hp9:=hp60.out;obtain⟨D,hD⟩:∃D,d*2 ^k=D:=⟨_,rfl⟩
    have hD9:D<=9*2 ^k:=by rw[<-hD];exact Nat.mul_le_mul_right _ (by omega)
    have hsh:IntKind.u64.wrap ((d:Int)*2 ^k)=(D:Int):=by
     rw[show(d:Int)*2 ^k=(D:Int) by rw[<-hD];simp,IntKind.wrap_u64];omega
    rw[hD] at n1 n2 n3;have hN8:N<1152921504606846976:=by omega
    have hD8:D<=10376293541461622784:=by omega
    obtain⟨Q,hQ⟩:∃Q,(N+D)/10=Q:=⟨_,rfl⟩
    obtain⟨M,hM⟩:∃M,(N+D)%10=M:=⟨_,rfl⟩
    rw[hQ,hM,hV] at n1;rw[hQ,hM,hV] at n2 n3;have hQ1:((N:Int)+(D:Int))/10=(Q:Int):=by omega
    have hM1:(N:Int)+(D:Int) - 10*(Q:Int)=(M:Int):=by omega
    have hM9:M<=9:=by omega
    have hQ9:Q<=1152921504606846976:=by omega
    obtain⟨c,hc⟩:∃c,48+d=c:=⟨_,rfl⟩
    have cd2:wr.cell? ⟨b,R,none⟩=some (.int .u8 (c:Int)):=by rw[<-hc];exact cd
    have hcd:(c:Int) - 48=(d:Int):=by omega
    have hc9:c<=57:=by omega
    have hR3:(R:Int)<800:=by omega
    have hR4:R<800:=by omega
    have hv9:V<=1000:=by omega
    replace hc:=hid hc;replace hd:=hid hd;replace hD:=hid hD;replace hQ:=hid hQ;replace hM:=hid hM;replace hV:=hid hV;clear hN9 hp9 hD9 cd;replace hQ1:=hid hQ1;replace hM1:=hid hM1;go_upto_region 11 with fail;rw[hQ1.out];clear hsh hcd cd2 hQ1;go_upto_region 12 with fail;rw[hM1.out];clear hM1;by_cases hw:V<800
    ·obtain⟨v,cw⟩:=hI3.some_ hI6 V hw
     have hnx:=hid (n1 hw);have hW3:(V:Int)<800:=by omega
     clear hI hI1 hI3 hI4 hI5 hI6 WW n1 n2 n3 c3;go_wp2_with fail;go_roundw
     case rel=>exact⟨R,Q,(R:Int) - 1,(V:Int),rfl,by omega,rfl,by have:=hV.out;omega,rfl,by omega,hnx⟩
     case measure=>simp[intOf]
    ·have hW3:¬(V:Int)<800:=by omega
     by_cases hq0:M=0
     ·subst hq0
      have hnx:=hid (n2 hw rfl);clear hI hI1 hI3 hI4 hI5 hI6 WW n1 n2 n3;go_wp2_with fail;go_roundw
      case rel=>exact⟨R,Q,(R:Int) - 1,(V:Int),rfl,by omega,rfl,by have:=hV.out;omega,rfl,by omega,hnx⟩
      case measure=>simp[intOf]
     ·have hnx:=hid (n3 hw hq0)
      have hq1:((M:Int) !=0)=true:=by simp;omega
      have hq2:(M !=0)=true:=by simp;omega
      replace hq0:=hid hq0;clear hI hI1 hI3 hI4 hI5 hI6 WW n1 n2 n3;go_wp2_with fail;go_roundw
      case rel=>exact⟨R,Q,(R:Int) - 1,(V:Int),rfl,by omega,rfl,by have:=hV.out;omega,rfl,by omega,hnx⟩
      case measure=>simp[intOf]
theorem Jp1 (k:Nat):∀(f n r:Nat),(J7m k f n r).2<=r+f
 |0,n,r=>Nat.le_refl _
 |f+1,n,r=>by
  simp only[J7m];split
  ·exact Nat.le_add_right _ _
  ·have:=Jp1 k f (n*10) (r+1);omega
theorem Jkl (k:Nat):∀(ds:List Nat) (n r:Nat),(J1u k ds n r).2.1<=r+ds.length+k+1
 |[],n,r=>by simp only[J1u];have:=Jp1 k (k+1) n r;simp;omega
 |d::ds,n,r=>by
  simp only[J1u];split
  ·simp;omega
  ·have:=Jkl k ds (n*10+d) (r+1);simp;omega
theorem Jeo (h:J41 a) {k:Nat} (h1:1<=k) (h2:k<=60):(a.right k).dp<=a.dp/\a.dp - 900<=(a.right k).dp:=by
 obtain⟨g1,g2⟩:=Jao h h1
 refine⟨by rcases g2 with g|g<;>omega,?_⟩
 obtain⟨d,es,hds,hd⟩:=g1.head
 have hr:=Jkl k a.ds 0 0;have hl:=h.len
 have e:(a.right k).dp=a.dp - (((J1u k a.ds 0 0).2.1:Int) - 1):=by
  have hne:(a.right k).ds≠[]:=by rw[hds];simp
  revert hne
  unfold Dc.right Jd9 Jui Dc.trim;intro hne
  simp only at hne⊢
  rw[if_neg hne]
 rw[e];omega
theorem Joy (h:J41 a):0<a.ds.length:=by
 obtain⟨d,es,hds,hd⟩:=h.head
 rw[hds];simp
theorem Jew (hG:Jfi w0) (hO:J41 a) (hA:J7n cs a ng) (k:Nat) (h1:1<=k) (h2:k<=60) (hdp: -1000000000<=a.dp/\a.dp<=1000000000) (hS:J3 w0 [] w ((b,J13 cs)::r)):
 Calls Tryz.prog 272 #[ptr b,.int .i64 k] w (J6t w0 r b (a.left k) ng):=by
 have hcall:=Jms hG hO hA k h1 h2 hdp hS;have W:=hA.at_.walk hS;have hn:=Joy hO;obtain⟨n,hn'⟩:∃n,a.ds.length=n:=⟨_,rfl⟩
 obtain⟨T,hT⟩:∃T,a.left k=T:=⟨_,rfl⟩
 rw[hT] at hcall⊢;rw[hn'] at W hn;have c0:=W.c0;have t1:((n:Int)==0)=false:=by simp;omega
 have t2:(n==0)=false:=by simp;omega
 have t3:¬(60:Int)<(k:Int):=by omega
 have t4:(0:Int)<(k:Int):=by omega
 replace hcall:=hid hcall;replace hn':=hid hn';replace hT:=hid hT;clear hG hO hA hdp hS W;go_enter Tryz.func272,Tryz.ntmps272;go_wp2_with fail;go_loop [1] (fun s1=>s1= .int .i64 k) (fun _=>0)
 case atStart=>rfl
 case round=>
  obtain rfl:=hrel;go_wp2_with fail;refine hcall.out.mono ?_;rintro e w1 ⟨rfl,hX⟩;go_wp2_with fail;go_end0
  exact⟨rfl,hX⟩
theorem Jkx (hO:J41 a) (hA:J7n cs a ng) (k:Nat) (h1:1<=k) (h2:k<=60) (hdp: -1000000000<=a.dp/\a.dp<=1000000000) (hS:J3 w0 [] w ((b,J13 cs)::r)):
 Calls Tryz.prog 272 #[ptr b,.int .i64 (-(k:Int))] w (J6t w0 r b (a.right k) ng):=by
 have hcall:=J9v hO hA k h1 h2 hdp hS;have W:=hA.at_.walk hS;have hn:=Joy hO;obtain⟨n,hn'⟩:∃n,a.ds.length=n:=⟨_,rfl⟩
 obtain⟨T,hT⟩:∃T,a.right k=T:=⟨_,rfl⟩
 rw[hT] at hcall⊢;rw[hn'] at W hn;have c0:=W.c0;have t1:((n:Int)==0)=false:=by simp;omega
 have t2:(n==0)=false:=by simp;omega
 obtain⟨t,ht⟩:∃t:Int,t= -(k:Int):=⟨_,rfl⟩
 have hk:(k:Int)= -t:=by omega
 rw[hk] at hcall;rw[<-ht];have t3:¬t< -60:=by omega
 have t4:¬(0:Int)<t:=by omega
 have t5:t<0:=by omega
 have t6: -60<=t:=by omega
 replace hcall:=hid hcall;replace hn':=hid hn';replace hT:=hid hT;replace ht:=hid ht;replace hk:=hid hk;clear hO hA hdp hS W;go_enter Tryz.func272,Tryz.ntmps272;go_wp2_with fail;go_loop [1] (fun s1=>s1= .int .i64 t) (fun _=>0)
 case atStart=>rfl
 case round=>
  obtain rfl:=hrel;go_wp2_with fail;refine hcall.out.mono ?_;rintro e w1 ⟨rfl,hX⟩;go_wp2_with fail;go_end0
  exact⟨rfl,hX⟩
def J4g (w0 w:World) (r:Hp) (b:Nat) (ng:Bool) (lo hi:Int):Prop:=∃a cs,J41 a/\J7n cs a ng/\lo<=a.dp/\a.dp<=hi/\J3 w0 [] w ((b,J13 cs)::r)
def Jza (w0:World) (r:Hp) (b:Nat) (ng:Bool) (lo hi:Int) (e:Ending) (w':World):Prop:=e= .returned (.tuple #[])/\J4g w0 w' r b ng lo hi
theorem Jnj {lo hi:Int} (k:Nat) (h1:1<=k) (h2:k<=1000000) (hlo: -100000<=lo) (hhi:hi<=100000) (hS:J4g w0 w r b ng lo hi):
 Calls Tryz.prog 272 #[ptr b,.int .i64 (-(k:Int))] w (Jza w0 r b ng (-100000000) hi):=by
 obtain⟨a,cs,hO,hA,g1,g2,S0⟩:=hS
 have W:=hA.at_.walk S0;have hn:=Joy hO;obtain⟨n,hn'⟩:∃n,a.ds.length=n:=⟨_,rfl⟩
 rw[hn'] at W hn;have c0:=W.c0;have t1:((n:Int)==0)=false:=by simp;omega
 have t2:(n==0)=false:=by simp;omega
 obtain⟨t,ht⟩:∃t:Int,t= -(k:Int):=⟨_,rfl⟩
 rw[<-ht];have t4:¬(0:Int)<t:=by omega
 have t5:t<0:=by omega
 have hbeg:J4g w0 w r b ng (-100000 - 20*((k:Int)+t)) hi:=⟨a,cs,hO,hA,by omega,g2,S0⟩
 have hk2: -1000000<=t:=by omega
 have hk3: -(k:Int)<=t:=by omega
 replace hbeg:=hid hbeg;replace hn':=hid hn';replace ht:=hid ht;clear hO hA S0 W;go_enter Tryz.func272,Tryz.ntmps272;go_wp2_with fail;clear c0 t1 t2 hn;go_loopw [1] (fun s1 wr=>∃u:Int,s1= .int .i64 u/\u<0/\ -1000000<=u/\ -(k:Int)<=u/\Hid (J4g w0 wr r b ng (-100000 - 20*((k:Int)+u)) hi)) (fun s1 _=>(-(intOf s1)).toNat)
 case atStart=>exact⟨t,rfl,t5,hk2,hk3,hbeg⟩
 case round=>
  clear hbeg t5 hk2 hk3 t4;obtain⟨u,rfl,hu,hu2,hu3,hI⟩:=hrel
  obtain⟨a,cs,hO,hA,g1,g2,S0⟩:=hI.out
  clear hI;by_cases h60:u< -60
  ·have hcall:=J9v hO hA 60 (by decide) (by decide) (by omega) S0
   have hd:=Jeo hO (k:=60) (by decide) (by decide)
   have hok:=(Jao hO (k:=60) (by decide)).1
   generalize a.right 60=a' at hcall hd hok;have hd1: -100000 - 20*((k:Int)+(u+60))<=a'.dp:=by omega
   have hd2:a'.dp<=hi:=by omega
   have hcall':Calls Tryz.prog 298 #[ptr b,.int .u64 60] wr (J6t w0 r b a' ng):=hcall;replace hcall':=hid hcall';replace hok:=hid hok;clear hcall hO hA g1 g2 S0 hd;go_wp2_with fail;refine hcall'.out.mono ?_;rintro e w1 ⟨rfl,cs',hA',S1⟩;have hnx:J4g w0 w1 r b ng (-100000 - 20*((k:Int)+(u+60))) hi:=⟨a',cs',hok.out,hA',hd1,hd2,S1⟩;replace hnx:=hid hnx;clear hA' S1;go_wp2_with fail;go_roundw
   case rel=>exact⟨u+60,rfl,by omega,by omega,by omega,hnx⟩
   case measure=>simp[intOf];omega
  ·obtain⟨m,hm⟩:∃m:Nat,u= -(m:Int):=⟨(-u).toNat,by omega⟩
   have hcall:=J9v hO hA m (by omega) (by omega) (by omega) S0
   have hd:=Jeo hO (k:=m) (by omega) (by omega)
   have hok:=(Jao hO (k:=m) (by omega)).1
   generalize a.right m=a' at hcall hd hok;have hd1: -100000000<=a'.dp:=by omega
   have hd2:a'.dp<=hi:=by omega
   have hm2:(m:Int)= -u:=by omega
   rw[hm2] at hcall;have h60': -60<=u:=by omega
   replace hcall:=hid hcall;replace hok:=hid hok;replace hm:=hid hm;replace hm2:=hid hm2;clear hO hA g1 g2 S0 hd;go_wp2_with fail;refine hcall.out.mono ?_;rintro e w1 ⟨rfl,cs',hA',S1⟩;have hnx:J4g w0 w1 r b ng (-100000000) hi:=⟨a',cs',hok.out,hA',hd1,hd2,S1⟩;replace hnx:=hid hnx;clear hA' S1;go_wp2_with fail;go_end0
   exact⟨rfl,hnx.out⟩
def J3x (c:UInt8):Bool:=decide (48<=c.toNat)&&decide (c.toNat<=57)
def J66 (l:List UInt8):Nat:=(l.takeWhile J3x).length
theorem Jox (l:List UInt8):J66 l<=l.length:=by
 unfold J66;induction l with
 |nil=>simp
 |cons c l ih=>simp only[List.takeWhile_cons];split<;>simp<;>omega
theorem Jow {l:List UInt8} {j:Nat} (h:j<J66 l):∃c,l[j]? =some c/\J3x c=true:=by
 unfold J66 at h;induction l generalizing j with
 |nil=>simp at h
 |cons c l ih=>
  simp only[List.takeWhile_cons] at h;split at h
  ·rename_i hc
   cases j with
   |zero=>exact⟨c,rfl,hc⟩
   |succ j=>exact ih (by simpa using h)
  ·simp at h
theorem Jr9 {l:List UInt8} {c:UInt8} (h:l[J66 l]? =some c):J3x c=false:=by
 unfold J66 at h;induction l with
 |nil=>simp at h
 |cons d l ih=>
  simp only[List.takeWhile_cons] at h;split at h
  ·exact ih (by simpa using h)
  ·rename_i hd
   simp at h
   subst h;simpa using hd
theorem Jdu (s:ByteArray) (hs:s.size<=1099511627776) (w:World):
 Calls Tryz.prog 193 #[.string s] w fun e w'=>e= .returned (.int .i64 (J66 s.data.toList))/\w'=w:=by
 have hle:J66 s.data.toList<=s.size:=by have:=Jox s.data.toList;simpa using this
 obtain⟨N,hN⟩:∃N,N=J66 s.data.toList:=⟨_,rfl⟩
 rw[<-hN] at hle⊢;replace hN:=hid hN;go_enter Tryz.func193,Tryz.ntmps193;go_wp2_with fail;go_loop [3] (fun s3=>∃k:Nat,s3= .int .i64 k/\k<=N) (fun s3=>(N - intOf s3).toNat)
 case atStart=>exact⟨0,rfl,Nat.zero_le _⟩
 case round=>
  obtain⟨k,rfl,hk⟩:=hrel
  by_cases hlt:k<N
  ·have hks:k<s.size:=by omega
   have hks2:(k:Int)<s.size:=by omega
   have hd:48<=s[k].toNat/\s[k].toNat<=57:=by
    obtain⟨c,hc,hdig⟩:=Jow (l:=s.data.toList) (j:=k) (by rw[<-hN.out];exact hlt)
    have:s[k]=c:=by
     rw[List.getElem?_eq_getElem (by simpa using hks)] at hc
     exact Option.some.inj hc
    rw[this];simpa[J3x] using hdig
   obtain⟨hd1,hd2⟩:=hd
   go_wp2_with fail;go_round
   case rel=>exact⟨k+1,by go_num,hlt⟩
   case measure=>simp[intOf];omega
  ·obtain rfl:N=k:=by omega
   by_cases hks:N<s.size
   ·have hks2:(N:Int)<s.size:=by omega
    have hd:¬(48<=s[N].toNat/\s[N].toNat<=57):=by
     have:=Jr9 (l:=s.data.toList) (c:=s[N]) (by
      rw[<-hN.out,List.getElem?_eq_getElem (by simpa using hks)]
      rfl)
     simp[J3x] at this;omega
    by_cases h1:48<=s[N].toNat
    ·have h2:¬s[N].toNat<=57:=fun h=>hd ⟨h1,h⟩
     replace hd:=hid hd;go_wp2_with fail;go_ret;exact⟨rfl,rfl⟩
    ·replace hd:=hid hd
     go_wp2_with fail;go_ret;exact⟨rfl,rfl⟩
   ·go_wp2_with fail
    go_ret;exact⟨rfl,rfl⟩
def aft (s:ByteArray):List UInt8->ByteArray
 |[]=>s
 |c::l=>if s.data.toList.head? =some c then s.extract 1 s.size else aft s l
theorem Jfl (hS:J3 w0 [] w r) (s sg:ByteArray) (hs:s.size<=1099511627776) (hg:sg.size<=100):
 Calls Tryz.prog 192 #[.string s,.string sg] w (J3m w0 r (.string (aft s sg.data.toList))):=by
 have hcv:=Lib.run_convert_string_bytes (P:=Tryz.prog) w 9 129 5 sg Tryz.underlying9 Tryz.underlying129 Tryz.underlying5;have hcell:=fun (j:Nat) (hj:j<sg.size)=>hid (Lib.bytesWorld_cell w 5 sg j hj)
 have S1:=hS.below (Lib.bytesWorld_below w 5 sg);generalize grownCap w sg.size 0 5=cap at hcv;generalize hw:Lib.bytesWorld w 5 sg=w1 at hcv hcell S1;generalize w.heap.size=g at hcv hcell;have hlen:sg.data.toList.length=sg.size:=by simp
 obtain⟨l,hl⟩:∃l,l=sg.data.toList:=⟨_,rfl⟩
 obtain⟨n,hn⟩:∃n,n=sg.size:=⟨_,rfl⟩
 rw[<-hl,<-hn] at hlen;rw[<-hl] at hcell⊢;rw[<-hn] at hcell hg hcv;obtain⟨T,hT⟩:∃T,T=aft s l:=⟨_,rfl⟩
 rw[<-hT];replace hl:=hid hl;replace hn:=hid hn;replace hT:=hid hT;replace hlen:=hid hlen;replace hcell:=hid hcell;replace S1:=hid S1;clear hw hS;by_cases h0:0<s.size
 ·have h0':(0:Int)<s.size:=by omega
  have hhd:s.data.toList.head? =some s[0]:=by
   rw[List.head?_eq_getElem?,List.getElem?_eq_getElem (by simpa using h0)];rfl
  have hs0:s[0]? =some s[0]:=by simp[h0]
  obtain⟨x,hx⟩:∃x,x=s[0]:=⟨_,rfl⟩
  have hxx:s[0]=x:=hx.symm;rw[<-hx] at hhd;replace hx:=hid hx;replace hhd:=hid hhd;go_enter Tryz.func192,Tryz.ntmps192;go_wp2_with fail;go_loop [6,10] (fun s6 s10=>∃k:Nat,s10= .int .i64 k/\k<=n/\Hid (T=aft s (l.drop k))) (fun s6 s10=>(n - intOf s10).toNat)
  case atStart=>exact⟨0,rfl,Nat.zero_le _,hid hT.out⟩
  case round=>
   obtain⟨k,rfl,hk,hr⟩:=hrel
   by_cases hlt:k<n
   ·have hlt2:(k:Int)<(n:Int):=by omega
    have hkl:k<l.length:=by rw[hlen.out];exact hlt
    have ck:=(hcell.out k hlt).out;rw[List.getD_eq_getElem?_getD,List.getElem?_eq_getElem hkl,Option.getD_some] at ck;have hr2:=hr.out;rw[List.drop_eq_getElem_cons hkl,aft] at hr2;generalize l[k]=c at ck hr2;clear hr hkl;by_cases hc:x=c
    ·subst hc
     rw[if_pos hhd.out] at hr2;replace hr2:=hid hr2;go_wp2_with fail;go_ret;rw[hr2.out];exact⟨rfl,S1.out⟩
    ·have ht:((x.toNat:Int)==(c.toNat:Int))=false:=by
      simp only[beq_eq_false_iff_ne,ne_eq];intro h
      exact hc (UInt8.toNat_inj.1 (by omega))
     have ht2:(x.toNat==c.toNat)=false:=by
      simp only[beq_eq_false_iff_ne,ne_eq];intro h
      exact hc (UInt8.toNat_inj.1 h)
     rw[hhd.out,if_neg (by simpa using hc)] at hr2
     replace hr2:=hid hr2;replace hc:=hid hc;go_wp2_with fail;go_round
     case rel=>exact⟨k+1,by go_num,hlt,hr2⟩
     case measure=>simp[intOf];omega
   ·have hr2:Hid (T=s):=hid (by rw[hr.out,List.drop_eq_nil_of_le (by rw[hlen.out];omega)];rfl)
    clear hr;go_wp2_with fail;go_ret;rw[hr2.out];exact⟨rfl,S1.out⟩
 ·have hTs:∀k,aft s (l.drop k)=s:=by
   intro k
   have hh:s.data.toList=[]:=by
    apply List.eq_nil_of_length_eq_zero
    have e:s.data.toList.length=s.size:=Array.length_toList;omega
   generalize l.drop k=q;induction q with
   |nil=>rfl
   |cons c q ih=>rw[aft,hh];simpa using ih
  have hTs0:Hid (T=s):=hid (by rw[hT.out];simpa using hTs 0)
  clear hTs;go_enter Tryz.func192,Tryz.ntmps192;go_wp2_with fail;go_loop [6,10] (fun s6 s10=>∃k:Nat,s10= .int .i64 k/\k<=n) (fun s6 s10=>(n - intOf s10).toNat)
  case atStart=>exact⟨0,rfl,Nat.zero_le _⟩
  case round=>
   obtain⟨k,rfl,hk⟩:=hrel
   by_cases hlt:k<n
   ·have hlt2:(k:Int)<(n:Int):=by omega
    have ck:=(hcell.out k hlt).out;go_wp2_with fail;go_round
    case rel=>exact⟨k+1,by go_num,hlt⟩
    case measure=>simp[intOf];omega
   ·go_wp2_with fail
    go_ret;rw[hTs0.out];exact⟨rfl,S1.out⟩
theorem Jdp (s:ByteArray) (l:List UInt8):(aft s l).size<=s.size:=by
 induction l with
 |nil=>exact Nat.le_refl _
 |cons c l ih=>
  rw[aft];split
  ·rw[ByteArray.size_extract];omega
  ·exact ih
def J87 (s:ByteArray) (m:UInt8) (sg:List UInt8):ByteArray×Bool:=
 if s.data.toList.head? =some m then
  ((aft (s.extract 1 s.size) sg).extract (J66 (aft (s.extract 1 s.size) sg).data.toList) (aft (s.extract 1 s.size) sg).size,decide (0<J66 (aft (s.extract 1 s.size) sg).data.toList))
 else(s,true)
theorem Jn1 (s:ByteArray) (m:UInt8) (sg:List UInt8):(J87 s m sg).1.size<=s.size:=by
 unfold J87;split
 ·have:=Jdp (s.extract 1 s.size) sg
  rw[ByteArray.size_extract] at this;show(ByteArray.extract _ _ _).size<=_
  rw[ByteArray.size_extract];omega
 ·exact Nat.le_refl _
theorem Jg8 (s:ByteArray):J66 s.data.toList<=s.size:=by have:=Jox s.data.toList;simpa using this
theorem Jke (hS:J3 w0 [] w r) (s sg:ByteArray) (m:UInt8) (hs:s.size<=1099511627776) (hg:sg.size<=100):
 Calls Tryz.prog 194 #[.string s,.int .u8 m.toNat,.string sg] w
  (J3m w0 r (.tuple #[.string (J87 s m sg.data.toList).1,.bool (J87 s m sg.data.toList).2])):=by
 obtain⟨T,hT⟩:∃T,T=J87 s m sg.data.toList:=⟨_,rfl⟩
 rw[<-hT];by_cases h0:0<s.size
 ·have h0':(0:Int)<s.size:=by omega
  have hne:¬s=ByteArray.empty:=by intro h;rw[h] at h0;exact absurd h0 (by decide)
  have hhd:s.data.toList.head? =some s[0]:=by
   rw[List.head?_eq_getElem?,List.getElem?_eq_getElem (by simpa using h0)];rfl
  by_cases hm:s[0]=m
  ·have hm2:s[0].toNat=m.toNat:=by rw[hm]
   rw[hm] at hhd;rw[J87,if_pos hhd] at hT;have hsz:(s.extract 1 s.size).size<=1099511627776:=by rw[ByteArray.size_extract];omega
   have hA:=Jfl hS (s.extract 1 s.size) sg hsz hg;have hz:(aft (s.extract 1 s.size) sg.data.toList).size<=1099511627776:=Nat.le_trans (Jdp _ _) hsz;generalize aft (s.extract 1 s.size) sg.data.toList=t at hT hA hz;have hD:=Jdu t hz;have hn:=Jg8 t;generalize J66 t.data.toList=n at hT hD hn;have hn2:(n:Int)<=(t.size:Int):=by omega
   replace hT:=hid hT;replace hhd:=hid hhd;replace hsz:=hid hsz;go_enter Tryz.func194,Tryz.ntmps194;go_wp2_with fail;refine hA.mono ?_;rintro e w1 ⟨rfl,S1⟩;go_wp2_with fail;refine(hD _).mono ?_
   rintro e w2 ⟨rfl,rfl⟩;go_wp2_with fail;go_ret2;rw[hT.out];refine⟨?_,S1⟩
   rfl
  ·have hm2:¬s[0].toNat=m.toNat:=fun h=>hm (UInt8.toNat_inj.1 h)
   have hm3:(s[0].toNat==m.toNat)=false:=by simpa using hm2
   have hm4:((s[0].toNat:Int)==(m.toNat:Int))=false:=by
    simp only[beq_eq_false_iff_ne,ne_eq];omega
   have hm5:((s[0].toNat:Int) !=(m.toNat:Int))=true:=by rw[bne,hm4];rfl
   have hm6:(s[0].toNat !=m.toNat)=true:=by rw[bne,hm3];rfl
   rw[J87,hhd,if_neg (by simpa using hm)] at hT
   replace hT:=hid hT;replace hhd:=hid hhd;replace hm:=hid hm;go_enter Tryz.func194,Tryz.ntmps194;go_wp2_with fail;go_ret2;rw[hT.out];exact⟨rfl,hS⟩
 ·have he:s=ByteArray.empty:=by
   apply ByteArray.ext
   apply Array.eq_empty_of_size_eq_zero
   have:s.data.size=s.size:=rfl
   omega
  subst he;have hT2:T=(ByteArray.empty,true):=by rw[hT];rfl
  replace hT:=hid hT;subst hT2;go_enter Tryz.func194,Tryz.ntmps194;go_wp2_with fail;go_ret2;exact⟨rfl,hS⟩
def rgA (s:ByteArray):ByteArray:=aft s [45]
def rgN (s:ByteArray):Nat:=J66 (rgA s).data.toList
def rgB (s:ByteArray):ByteArray×Bool:=J87 ((rgA s).extract (rgN s) (rgA s).size) 46 []
def rgC (s:ByteArray):ByteArray×Bool:=J87 (rgB s).1 101 [43,45]
def J40 (s:ByteArray):Bool:=decide (0<rgN s)&&(rgB s).2&&(rgC s).2&&(rgC s).1.toList.isEmpty
theorem Jne (hS:J3 w0 [] w r) (s:ByteArray) (hs:s.size<=1099511627776):
 Calls Tryz.prog 156 #[.string s] w (J3m w0 r (.bool (J40 s))):=by
 have hA:=Jfl hS s ⟨#[45]⟩ hs (by decide)
 have hz1:(rgA s).size<=1099511627776:=Nat.le_trans (Jdp _ _) hs;have hn:rgN s<=(rgA s).size:=Jg8 (rgA s);have hD:=Jdu (rgA s) hz1;have hz2:((rgA s).extract (rgN s) (rgA s).size).size<=1099511627776:=by rw[ByteArray.size_extract];omega
 have hz3:(rgB s).1.size<=1099511627776:=Nat.le_trans (Jn1 _ _ _) hz2;have hB:=fun (w':World) (r':Hp) (S':J3 w0 [] w' r')=>Jke S' ((rgA s).extract (rgN s) (rgA s).size) ByteArray.empty 46 hz2 (by decide)
 have hC:=fun (w':World) (r':Hp) (S':J3 w0 [] w' r')=>Jke S' (rgB s).1 ⟨#[43,45]⟩ 101 hz3 (by decide)
 have hT:J40 s=(decide (0<rgN s)&&(rgB s).2&&(rgC s).2&&(rgC s).1.toList.isEmpty):=rfl;obtain⟨T,hT'⟩:∃T,T=J40 s:=⟨_,rfl⟩
 rw[<-hT'] at hT⊢;clear hT';change Calls Tryz.prog 192 _ _ (J3m w0 r (.string (rgA s))) at hA
 change ∀w',Calls Tryz.prog 193 _ w' (fun e w''=>e= .returned (.int .i64 (rgN s:Nat))/\w''=w') at hD
 change ∀w' r' S',Calls Tryz.prog 194 _ _ (J3m w0 r' (.tuple #[.string (rgB s).1,.bool (rgB s).2])) at hB
 change ∀w' r' S',Calls Tryz.prog 194 _ _ (J3m w0 r' (.tuple #[.string (rgC s).1,.bool (rgC s).2])) at hC
 generalize rgA s=a at hA hz1 hn hD hz2 hB;generalize rgN s=n at hn hD hz2 hB hT;generalize rgB s=b at hB hC hz3 hT;generalize rgC s=c at hC hT;obtain⟨b1,b2⟩:=b
 obtain⟨c1,c2⟩:=c
 simp only at hT hB hC hz3
 have hn2:(n:Int)<=(a.size:Int):=by omega
 replace hT:=hid hT;go_enter Tryz.func156,Tryz.ntmps156;go_wp2_with fail;refine hA.mono ?_;rintro e w1 ⟨rfl,S1⟩;go_wp2_with fail;refine(hD _).mono ?_
 rintro e w2 ⟨rfl,rfl⟩;go_wp2_with fail;refine(hB _ _ S1).mono ?_
 rintro e w2 ⟨rfl,S2⟩;go_wp2_with fail;refine(hC _ _ S2).mono ?_
 rintro e w3 ⟨rfl,S3⟩;go_wp2_with fail;all_goals go_ret
 all_goals refine⟨?_,S3⟩
 all_goals (rw[hT.out];simp[*])
def okB (c:UInt8):Prop:=J3x c=true\/c=45\/c=46\/c=101\/c=43
def J7e (l:List UInt8):Prop:=∀c,c∈l->okB c
theorem J7r (s:ByteArray) (n:Nat):(s.extract n s.size).data.toList=s.data.toList.drop n:=by
 rw[ByteArray.data_extract,Array.toList_extract,List.extract_eq_take_drop];have:s.data.toList.length=s.size:=Array.length_toList
 rw[List.take_of_length_le (by simp)]
theorem Jse (s:ByteArray) (sg:List UInt8) (hg:J7e sg) (h:J7e (aft s sg).data.toList):J7e s.data.toList:=by
 induction sg with
 |nil=>exact h
 |cons c l ih=>
  rw[aft] at h;split at h
  ·rename_i hh
   rw[J7r] at h;cases hl:s.data.toList with
   |nil=>intro x hx;cases hx
   |cons d t=>
    rw[hl] at h hh;simp at hh h
    subst hh;intro x hx
    rcases List.mem_cons.1 hx with rfl|hx
    ·exact hg _ (by simp)
    ·exact h x hx
  ·exact ih (fun x hx=>hg x (List.mem_cons_of_mem _ hx)) h
theorem Jsl (l:List UInt8) (h:J7e (l.drop (J66 l))):J7e l:=by
 induction l with
 |nil=>exact h
 |cons c l ih=>
  by_cases hc:J3x c=true
  ·have:J66 (c::l)=J66 l+1:=by simp[J66,hc]
   rw[this] at h;intro x hx
   rcases List.mem_cons.1 hx with rfl|hx
   ·exact .inl hc
   ·exact ih (by simpa using h) x hx
  ·have:J66 (c::l)=0:=by simp[J66,hc]
   rw[this] at h;exact h
theorem Jkd (s:ByteArray) (m:UInt8) (sg:List UInt8) (hm:okB m) (hg:J7e sg) (h:J7e (J87 s m sg).1.data.toList):J7e s.data.toList:=by
 unfold J87 at h;split at h
 ·rename_i hh
  simp only[J7r] at h;have h1:=Jse _ _ hg (Jsl _ h);rw[J7r] at h1;cases hl:s.data.toList with
  |nil=>intro x hx;cases hx
  |cons d t=>
   rw[hl] at h1 hh;simp at hh h1
   subst hh;intro x hx
   rcases List.mem_cons.1 hx with rfl|hx
   ·exact hm
   ·exact h1 x hx
 ·exact h
theorem Jrn (h:J40 s=true):J7e s.data.toList:=by
 simp only[J40,Bool.and_eq_true] at h
 have e:(rgC s).1=ByteArray.empty:=by
  have:=h.2
  apply ByteArray.ext
  apply Array.eq_empty_of_size_eq_zero
  have h3:(rgC s).1.toList=[]:=by simpa using this
  rw[ByteArray.toList_eq] at h3;have:(rgC s).1.data.toList.length=0:=by rw[h3];rfl
  rwa[Array.length_toList] at this
 have h0:J7e (rgC s).1.data.toList:=by rw[e];intro x hx;cases hx
 have h1:J7e (rgB s).1.data.toList:=Jkd _ _ _ (by simp[okB]) (by intro c hc;simp at hc;rcases hc with rfl|rfl<;>simp[okB]) h0
 have h2:J7e ((rgA s).extract (rgN s) (rgA s).size).data.toList:=Jkd _ _ _ (by simp[okB]) (by intro c hc;cases hc) h1
 rw[J7r] at h2;exact Jse _ _ (by intro c hc;simp at hc;rcases hc with rfl;simp[okB]) (Jsl _ h2)
theorem Jep (h:J40 s=true):0<s.size/\((∃c,s.data.toList[0]? =some c/\J3x c=true)\/(s.data.toList[0]? =some 45/\∃c,s.data.toList[1]? =some c/\J3x c=true)):=by
 simp only[J40,Bool.and_eq_true,decide_eq_true_eq] at h;have hn:0<J66 (aft s [45]).data.toList:=h.1.1.1;obtain⟨c,hc,hd⟩:=Jow hn
 simp only[aft] at hc;split at hc
 ·rename_i hh
  rw[J7r,List.getElem?_drop] at hc;rw[List.head?_eq_getElem?] at hh;refine⟨?_,.inr ⟨hh,c,hc,hd⟩⟩
  have:=(List.getElem?_eq_some_iff.1 hh).1
  simpa using this
 ·refine⟨?_,.inl ⟨c,hc,hd⟩⟩
  have:=(List.getElem?_eq_some_iff.1 hc).1
  simpa using this
theorem Jkp (h:J40 s=true) (k:Nat) (hk:k<s.size):(48<=s[k].toNat/\s[k].toNat<=57)\/s[k].toNat=45\/s[k].toNat=46\/s[k].toNat=101\/s[k].toNat=43:=by
 have hm:s[k]∈s.data.toList:=by
  have:s[k]=s.data.toList[k]'(by simpa using hk):=rfl
  rw[this];exact List.getElem_mem _
 rcases Jrn h _ hm with h|h|h|h|h
 ·left;simpa[J3x] using h
 ·right;left;rw[h];rfl
 ·right;right;left;rw[h];rfl
 ·right;right;right;left;rw[h];rfl
 ·right;right;right;right;rw[h];rfl
end Go.Proofs.YtncbcaabanoeoaaGreatDoor
