/-
strconv: the text of a number with a point, with the fewest digits: what is computed.
-/
import Derived.Deep.RegionWith
import Derived.Lib.ConvBytes
import Derived.Test.YtncbcaabanoeoaaGreatDoorQ13
import Derived.Test.YtncbcaabanoeoaaGreatDoorQ16
import Derived.Test.YtncbcaabanoeoaaGreatDoorQ31
set_option linter.unusedVariables false
set_option linter.unusedSimpArgs false
set_option maxRecDepth 100000
set_option maxHeartbeats 8000000
namespace Go.Proofs.YtncbcaabanoeoaaGreatDoor
open Go Go.RowKit
variable {w0 w:World}{r:Hp}{s:Value}
theorem Jgi (hS:J3 w0 [] w r) (hF:J49 w0) (m:Nat) (e:Int) (hm:2 ^63<=m) (hm2:m+2 ^(if -1085<=e then 11 else(-1074 - e).toNat)<=2 ^64) (h0: -1137<=e) (h1:e<=960):
 Calls Tryz.prog 274 #[.int .u64 m,.int .i64 e] w (J3m w0 r (.tuple #[.int .u64 (J38 m e).1,.int .i64 (J38 m e).2])):=by
 unfold J38;have h63:(2:Nat) ^63=9223372036854775808:=by decide
 by_cases hm0:m=2 ^63
 ·by_cases he: -1085<e
  ·rw[if_pos ⟨hm0,he⟩]
   exact Jx6 hS hF m e hm (by omega) he h1
  ·rw[if_neg (fun h=>he h.2)]
   by_cases he2: -1085<=e
   ·rw[if_pos he2]
    exact Juy hS hF m e hm (by omega) (by omega)
   ·rw[if_neg he2]
    rw[if_neg he2] at hm2;exact Juz hS hF m e hm (by omega) hm2 h0 (by omega)
 ·rw[if_neg (fun h=>hm0 h.1)]
  by_cases he2: -1085<=e
  ·rw[if_pos he2]
   rw[if_pos he2] at hm2;exact Jx7 hS hF m e hm hm2 he2 h1 (by omega)
  ·rw[if_neg he2]
   rw[if_neg he2] at hm2;exact Jx8 hS hF m e hm (by omega) hm2 h0 (by omega)
theorem J79 {m:Nat} {e:Int} (hm:2 ^63<=m) (hm2:m+2 ^(if -1085<=e then 11 else(-1074 - e).toNat)<=2 ^64) (h0: -1137<=e) (h1:e<=960):
 1<=(J38 m e).1/\(J38 m e).1<2 ^63/\ -400<=(J38 m e).2/\(J38 m e).2<=400:=by
 have hp:∀p mn mx odd,Jh2 e p-> -400<=(J37 m e p mn mx odd).2/\(J37 m e p mn mx odd).2<=400:=by
  intro p mn mx odd hk
  have:=hk.p0
  have:=hk.p1
  unfold J37;split
  ·simp only;omega
  ·split<;>(simp only;omega)
 have hz:2 ^11<=2 ^64:=by decide
 unfold J38;split
 ·rename_i h
  have hk:=scA e (by omega) h1
  have:=J9z (mn:=m - 512) (mx:=m+1024) (odd:=m/2048%2) hk hm (by omega) (by omega) (by omega) (by omega) (by omega) (by omega)
  exact⟨this.1,this.2,hp _ _ _ _ hk⟩
 ·split
  ·rename_i he
   rw[if_pos he] at hm2;have hk:=scB e he h1;have:=J9z (mn:=m - 1024) (mx:=m+1024) (odd:=m/2048%2) hk hm (by omega) (by omega) (by omega) (by omega) (by omega) (by omega)
   exact⟨this.1,this.2,hp _ _ _ _ hk⟩
  ·rename_i he
   rw[if_neg he] at hm2;have hk:=scC e h0 (by omega)
   obtain⟨Y,hY⟩:∃Y,(-1074 - e).toNat=Y+1:=⟨(-1074 - e).toNat - 1,by omega⟩
   have hY2:Y<=62:=by omega
   rw[hY,Nat.pow_succ] at hm2;have hP1:2 ^Y<=2 ^62:=Nat.pow_le_pow_right (by decide) hY2
   have hP0:0<2 ^Y:=Nat.pow_pos (by decide)
   unfold shC;rw[hY,Nat.add_sub_cancel];have:=J9z (mn:=m - 2 ^Y) (mx:=m+2 ^Y) (odd:=m/2 ^(Y+1)%2) hk hm (by omega) (by omega) (by omega) (by omega) (by omega) (by omega)
   exact⟨this.1,this.2,hp _ _ _ _ hk⟩
theorem J9c:∀(f x:Nat),x<2 ^f->1<=x->1<=Lib.bitLenAux f x/\Lib.bitLenAux f x<=f/\2 ^(Lib.bitLenAux f x - 1)<=x/\x<2 ^Lib.bitLenAux f x
 |0,x,h,h1=>by simp at h;omega
 |f+1,x,h,h1=>by
  simp only[Lib.bitLenAux,if_neg (show ¬x=0 by omega)]
  by_cases h2:x/2=0
  ·have hz:Lib.bitLenAux f (x/2)=0:=by
    rw[h2];cases f<;>rfl
   rw[hz];refine⟨by omega,by omega,?_,?_⟩<;>simp<;>omega
  ·have ih:=J9c f (x/2) (by rw[Nat.pow_succ] at h;omega) (by omega)
   generalize Lib.bitLenAux f (x/2)=k at ih⊢;obtain⟨i1,i2,i3,i4⟩:=ih
   refine⟨by omega,by omega,?_,?_⟩
   ·rw[show 1+k - 1=(k - 1)+1 by omega,Nat.pow_succ];omega
   ·rw[Nat.add_comm,Nat.pow_succ];omega
theorem Jfm {x k:Nat} (h1:1<=x) (h:x<2 ^k) (hk:k<=64):1<=Lib.bitLen x/\Lib.bitLen x<=k/\2 ^(Lib.bitLen x - 1)<=x/\x<2 ^Lib.bitLen x:=by
 have hb:=J9c 64 x (Nat.lt_of_lt_of_le h (Nat.pow_le_pow_right (by decide) hk)) h1
 refine⟨hb.1,?_,hb.2.2⟩
 refine Nat.le_of_not_lt fun hlt=>?_
 have:2 ^k<=2 ^(Lib.bitLen x - 1):=Nat.pow_le_pow_right (by decide) (by unfold Lib.bitLen at *;omega)
 have:=hb.2.2.1
 unfold Lib.bitLen at *;omega
def J7u (b:Nat):Bool:=decide (2 ^63<=b)
def fEx (b:Nat):Nat:=b/2 ^52%2048
def fMa (b:Nat):Nat:=if fEx b=0 then b%2 ^52 else b%2 ^52+2 ^52
def fXp (b:Nat):Int:=(if fEx b=0 then 1 else(fEx b:Int)) - 1023
def fSh (b:Nat):Nat:=64 - Lib.bitLen (fMa b)
def J7t (b:Nat):Nat×Int:=J38 (fMa b*2 ^fSh b) (fXp b - fSh b - 52)
def J4l (b:Nat):List UInt8:=(Lib.decDigits (J7t b).1).take (J4f (Lib.decDigits (J7t b).1) (Lib.nDigits (J7t b).1))
def J6z (b:Nat):Int:=(Lib.nDigits (J7t b).1:Int)+(J7t b).2
def J4m (b:Nat):List UInt8:=if fMa b=0 then J1b (J7u b)++[48,101,43,48,48] else Jho (J7u b) ((J4l b).headD 48) (J4l b).tail (J6z b)
def J7v (b:Nat):List UInt8:=if fMa b=0 then J1b (J7u b)++[48] else Jwc (J7u b) (J4l b) (J6z b)
structure FOk (b:Nat):Prop where
 ma1:1<=fMa b
 sh0:11<=fSh b
 sh1:fSh b<=63
 len:Lib.bitLen (fMa b)=64 - fSh b
 m0:2 ^63<=fMa b*2 ^fSh b
 m1:fMa b*2 ^fSh b+2 ^(if -1085<=fXp b - fSh b - 52 then 11 else(-1074 - (fXp b - fSh b - 52)).toNat)<=2 ^64
 e0: -1137<=fXp b - fSh b - 52
 e1:fXp b - fSh b - 52<=960
theorem fok {b:Nat} (hx:fEx b≠2047) (hm:fMa b≠0):FOk b:=by
 suffices H:1<=fMa b/\11<=fSh b/\fSh b<=63/\Lib.bitLen (fMa b)=64 - fSh b/\2 ^63<=fMa b*2 ^fSh b/\
  fMa b*2 ^fSh b+2 ^(if -1085<=fXp b - fSh b - 52 then 11 else(-1074 - (fXp b - fSh b - 52)).toNat)<=2 ^64/\ -1137<=fXp b - fSh b - 52/\fXp b - fSh b - 52<=960 from
  ⟨H.1,H.2.1,H.2.2.1,H.2.2.2.1,H.2.2.2.2.1,H.2.2.2.2.2.1,H.2.2.2.2.2.2.1,H.2.2.2.2.2.2.2⟩
 have hE:fEx b<2048:=Nat.mod_lt _ (by decide)
 have hM:fMa b<2 ^53/\(fEx b≠0->2 ^52<=fMa b)/\(fEx b=0->fMa b<2 ^52):=by
  have:=Nat.mod_lt b (show 0<2 ^52 by decide)
  unfold fMa;split<;>omega
 have hb:=Jfm (Nat.one_le_iff_ne_zero.2 hm) hM.1 (by decide)
 have hsh:fSh b=64 - Lib.bitLen (fMa b):=rfl;have hxp:fXp b=(if fEx b=0 then 1 else(fEx b:Int)) - 1023:=rfl
 generalize fMa b=M at *;generalize hL:Lib.bitLen M=L at *;generalize fSh b=s at *;generalize fXp b=X at *;generalize fEx b=E at *;obtain⟨l1,l2,l3,l4⟩:=hb
 have hLs:L+s=64:=by omega
 have hp:2 ^L*2 ^s=2 ^64:=by rw[<-Nat.pow_add,hLs]
 have hp2:2 ^(L - 1)*2 ^s=2 ^63:=by rw[<-Nat.pow_add];congr 1;omega
 have m0:2 ^63<=M*2 ^s:=by rw[<-hp2];exact Nat.mul_le_mul_right _ l3
 have m1:M*2 ^s+2 ^s<=2 ^64:=by
  rw[<-hp];have:(M+1)*2 ^s<=2 ^L*2 ^s:=Nat.mul_le_mul_right _ l4
  rw[Nat.add_mul,Nat.one_mul] at this;exact this
 by_cases hE0:E=0
 ·have hMs:=hM.2.2 hE0
  have hL52:L<=52:=by
   refine Nat.le_of_not_lt fun hlt=>?_
   have:2 ^52<=2 ^(L - 1):=Nat.pow_le_pow_right (by decide) (by omega)
   omega
  rw[if_pos hE0] at hxp;refine⟨by omega,by omega,by omega,by omega,m0,?_,by omega,by omega⟩
  rw[if_neg (by omega),show(-1074 - (X - (s:Int) - 52)).toNat=s by omega]
  exact m1
 ·have hMs:=hM.2.1 hE0
  have hL53:L=53:=by
   refine Nat.le_antisymm l2 (Nat.le_of_not_lt fun hlt=>?_)
   have:2 ^L<=2 ^52:=Nat.pow_le_pow_right (by decide) (by omega)
   omega
  rw[if_neg hE0] at hxp;have hs:s=11:=by omega
  refine⟨by omega,by omega,by omega,by omega,m0,?_,by omega,by omega⟩
  rw[if_pos (by omega)]
  rw[hs] at m1;rw[hs];exact m1
theorem Jz.drewN {l:List UInt8} (h:Jz w0 r l s w) (n:Nat):Jz w0 r l s (w.drewN n):=by
 obtain⟨a,c,sl,rfl,hb,hS⟩:=h;exact⟨a,c,sl,rfl,hb,hS.drewN n⟩
theorem J1m.less {p:Nat×Obj} {l:List UInt8} {e:Ending} (h:J1m w0 (p::r) l e w):J1m w0 r l e w:=by
 obtain⟨v,rfl,a,c,sl,rfl,hb,hS⟩:=h
 exact⟨_,rfl,a,c,sl,rfl,hb,hS.less (List.Sublist.append (List.Sublist.refl _) (List.sublist_cons_self _ _))⟩
theorem Jhy (n:Nat) (h:n<9223372036854775808):bits .and .i64 (n:Int) 2047=((n%2048:Nat):Int):=by
 have hm:=bits_mask .i64 63 (by decide) (fun n h0 h1=>by simp[IntKind.wrap,IntKind.bits,IntKind.signed];omega) 11 (by decide) (n:Int) (by omega) (by omega)
 exact hm
theorem Jhz (n:Nat) (h:n<18446744073709551616):bits .and .u64 (n:Int) 4503599627370495=((n%4503599627370496:Nat):Int):=by
 have hm:=bits_and_u64_nat n 4503599627370495 h (by decide)
 rw[show n&&&4503599627370495=n%4503599627370496 from Nat.and_two_pow_sub_one_eq_mod n 52] at hm;exact hm
theorem Jzu (n:Nat) (h:n<4503599627370496):bits .or .u64 (n:Int) 4503599627370496=((n+4503599627370496:Nat):Int):=by
 have hm:=bits_or_u64_nat n 4503599627370496 (by omega) (by decide)
 rw[show n|||4503599627370496=4503599627370496+n by rw[Nat.or_comm];exact(Nat.two_pow_add_eq_or_of_lt (i:=52) h 1).symm] at hm
 rw[Nat.add_comm];exact hm
theorem Jyh (h:Jz w0 r [] s w) (hG:J17 w0) (hF:J49 w0) (b:Nat) (hb:b<18446744073709551616) (hx:fEx b≠2047) (hm:fMa b≠0):
 Calls Tryz.prog 241 #[s,.float .f64 b,.int .u8 101,.int .i64 (-1)] w (J1m w0 r (J4m b)):=by
 have hok:=fok hx hm;obtain⟨E,hE⟩:∃E,E=fEx b:=⟨_,rfl⟩
 obtain⟨A,hA⟩:∃A,A=b%4503599627370496:=⟨_,rfl⟩
 obtain⟨ng,hng⟩:∃ng,ng=J7u b:=⟨_,rfl⟩
 obtain⟨X,hX⟩:∃X,X=fXp b:=⟨_,rfl⟩
 obtain⟨M,hM⟩:∃M,M=fMa b:=⟨_,rfl⟩
 have f1:((b:Int)/9223372036854775808 !=0)=ng:=by
  rw[hng,J7u,Bool.eq_iff_iff];simp;omega
 have f2:bits .and .i64 ((b:Int)/4503599627370496) 2047=(E:Int):=by
  have:=Jhy (b/4503599627370496) (by omega)
  rw[hE,fEx];exact this
 have f3:bits .and .u64 (b:Int) 4503599627370495=(A:Int):=by rw[hA];exact Jhz b hb
 have hA2:A<4503599627370496:=by rw[hA];exact Nat.mod_lt _ (by decide)
 have hE2:E<2048:=by rw[hE];exact Nat.mod_lt _ (by decide)
 have f4:((E:Int)==2047)=false:=by
  have:E≠2047:=by rw[hE];exact hx
  simp;omega
 have f5:bits .or .u64 (A:Int) 4503599627370496=((A+4503599627370496:Nat):Int):=Jzu A hA2;have hM2:M=if E=0 then A else A+4503599627370496:=by rw[hM,fMa,hE,hA]
 have hX2:X=(if E=0 then 1 else(E:Int)) - 1023:=by rw[hX,fXp,hE]
 have hrb:=fun w=>J78 b w
 replace h:=hid h;replace hE:=hid hE;replace hA:=hid hA;replace hng:=hid hng;replace hX:=hid hX;replace hM:=hid hM;replace hM2:=hid hM2;replace hX2:=hid hX2;replace hok:=hid hok;replace hx:=hid hx;replace hm:=hid hm;go_enter Tryz.func241,Tryz.ntmps241;go_wp2_with fail;go_quiet (fail);go_upto_if 78 with fail;go_cut [14,15] (fun s14 s15 wc=>s14= .int .i64 (X+1023)/\s15= .int .u64 (M:Int)/\wc=w.drewN nq)
 case first=>
  by_cases h0:E=0
  ·have e1:X+1023=1:=by have:=hX2.out;rw[if_pos h0] at this;omega
   have e2:M=A:=by have:=hM2.out;rw[if_pos h0] at this;exact this
   subst h0;replace e1:=hid e1;replace e2:=hid e2;go_wp2_with fail;go_meet
   rw[e1.out,e2.out];exact⟨rfl,rfl,rfl⟩
  ·have e1:X+1023=E:=by have:=hX2.out;rw[if_neg h0] at this;omega
   have e2:M=A+4503599627370496:=by have:=hM2.out;rw[if_neg h0] at this;exact this
   have h1:((E:Int)==0)=false:=by simp;exact h0
   replace e1:=hid e1;replace e2:=hid e2;replace h0:=hid h0;go_wp2_with fail;go_meet
   rw[e1.out,e2.out];exact⟨rfl,rfl,rfl⟩
 case rest=>
  obtain⟨rfl,rfl,rfl⟩:=hcut
  have h1:=h.out.drewN nq;generalize w.drewN nq=w1 at h1⊢;clear h f2 f3 f5 hrb;obtain⟨a0,c0,sl,rfl,hbs,S1⟩:=h1
  have S2:=S1.alloc (.cells #[.int .u8 0,.int .u8 0,.int .u8 0,.int .u8 0,.int .u8 0,.int .u8 0,.int .u8 0,.int .u8 0,.int .u8 0,.int .u8 0,.int .u8 0,.int .u8 0,.int .u8 0,.int .u8 0,.int .u8 0,.int .u8 0,.int .u8 0,.int .u8 0,.int .u8 0,.int .u8 0,.int .u8 0,.int .u8 0,.int .u8 0,.int .u8 0,.int .u8 0,.int .u8 0,.int .u8 0,.int .u8 0,.int .u8 0,.int .u8 0,.int .u8 0,.int .u8 0] 355);obtain⟨b1,hb1⟩:∃b1,b1=w1.heap.size:=⟨_,rfl⟩
  rw[<-hb1] at S2;have g1:((M:Int)==0)=false:=by have:=hm.out;rw[<-hM.out] at this;simpa using this
  have g2:X+1023+ -1023=X:=by omega
  obtain⟨sh,hsh⟩:∃sh,sh=fSh b:=⟨_,rfl⟩
  have k1:=hok.out.sh0;have k2:=hok.out.sh1;have k3:=hok.out.len;have k4:=hok.out.m0;have k5:=hok.out.m1;have k6:=hok.out.e0;have k7:=hok.out.e1;have k8:=J79 k4 k5 k6 k7;have k9:=fun (w':World) (L:Hp) (hS:J3 w0 [] w' L)=>Jgi hS hF _ _ k4 k5 k6 k7
  have hfd:J7t b=J38 (fMa b*2 ^fSh b) (fXp b - fSh b - 52):=rfl;rw[<-hM.out,<-hsh] at k3 k4 k5 hfd k8;rw[<-hX.out] at k6 k7 hfd k8 k5;rw[<-hsh] at k1 k2 k6 k7;rw[<-hX.out,<-hM.out,<-hsh] at k9;obtain⟨m,hmm⟩:∃m,m=M*2 ^sh:=⟨_,rfl⟩
  rw[<-hmm] at k4 k5 k8 k9 hfd
  have hm64:m<18446744073709551616:=by
   have:0<2 ^(if -1085<=X - (sh:Int) - 52 then 11 else(-1074 - (X - (sh:Int) - 52)).toNat):=Nat.pow_pos (by decide)
   omega
  obtain⟨D,hD⟩:∃D,D=(J38 m (X - sh - 52)).1:=⟨_,rfl⟩
  obtain⟨P,hP⟩:∃P,P=(J38 m (X - sh - 52)).2:=⟨_,rfl⟩
  rw[<-hD,<-hP] at k8 k9;have hfD:(J7t b).1=D:=by rw[hfd,<-hD]
  have hfP:(J7t b).2=P:=by rw[hfd,<-hP]
  obtain⟨d1,d2,d3,d4⟩:=k8
  obtain⟨nd,hnd⟩:∃nd,nd=Lib.nDigits D:=⟨_,rfl⟩
  have hnd20:nd<=20:=by rw[hnd];exact Lib.nDigits_le20 D (by omega)
  have hnd1:1<=nd:=by rw[hnd];exact Lib.nDigits_pos D
  have hlen:∀w',Hid (Calls Tryz.prog 129 #[.int .u64 (M:Int)] w' fun e w''=>e= .returned (.int .i64 (64 - (sh:Int)))/\w''=w'):=fun w'=>hid (by
   have hM53:M<18446744073709551616:=by
    have:M*1<=M*2 ^sh:=Nat.mul_le_mul_left _ (Nat.pow_pos (by decide))
    omega
   have:=Tryz.bits_Len64 (M:Int) w' (by omega) (by omega)
   rw[Int.toNat_natCast,k3] at this;have e1:((64 - sh:Nat):Int)=64 - (sh:Int):=by omega
   rw[e1] at this;exact this)
  have g3:64 - (64 - (sh:Int))=sh:=by omega
  have g4:IntKind.u64.wrap ((M:Int)*2 ^sh)=(m:Int):=by
   rw[show(M:Int)*2 ^sh=((M*2 ^sh:Nat):Int) by simp,<-hmm,IntKind.wrap_u64];omega
  have hnum:∀(w':World) (L:Hp),J3 w0 [] w' L->Calls Tryz.prog 230 #[.int .u64 (D:Int)] w' (fun e w''=>e= .returned (.int .i64 (nd:Int))/\w''=w'):=fun w' L hS=>by
   have:=Tryz.internal_strconv_numDigits D d1 (by omega) w' (hG.keep hS).tab
   rw[<-hnd] at this;exact this
  replace hfd:=hid hfd;replace hfD:=hid hfD;replace hfP:=hid hfP;replace hmm:=hid hmm;replace hD:=hid hD;replace hP:=hid hP;replace hsh:=hid hsh;replace hnd:=hid hnd;replace k3:=hid k3;replace k5:=hid k5;replace k9:=hid k9;replace hnum:=hid hnum;clear S1;replace S2:=hid S2;go_wp2_with fail;refine(hlen _).out.mono ?_
  rintro en w' ⟨rfl,rfl⟩;rw[<-hb1];replace hb1:=hid hb1;generalize hw2:w1.alloc _=w2 at S2⊢;clear hw2;replace S2:Hid (J3 w0 [] w2 ((b1,.cells (Array.replicate 32 (.int .u8 0)) 355 (0,0))::(sl++r))):=hid S2.out;have hsf:=k9.out w2 _ S2.out;replace hsf:=hid hsf;go_wp2_with fail;refine hsf.out.mono ?_;rintro en w3 ⟨rfl,S3⟩;clear hsf hlen;obtain⟨L,hL⟩:∃L:Hp,L=(b1,.cells (Array.replicate 32 (.int .u8 0)) 355 (0,0))::(sl++r):=⟨_,rfl⟩
  have S4:J3 w0 [] w3 L:=by rw[hL];exact S3
  replace hL:=hid hL;go_wp2_with fail;have S5:=S4.drew;have hnm:=hid (hnum.out w3.drew L S5);rw[hL.out] at S5;have hsd:=hid (Jev S5 D d1 (by omega) P (by omega) (by omega) nd hnd.out)
  clear S4 S2 S3 hnum hL S5;go_cut [22,23] (fun s22 s23 wc=>∃cs:Array Value,s22= .int .i64 ((nd:Int)+P)/\s23= .int .i64 (J4f (Lib.decDigits D) nd:Nat)/\Jo4 cs (Lib.decDigits D)/\J3 w0 [] wc ((b1,.cells cs 355 (0,0))::(sl++r)))
  case first=>
   go_region_with (first|(go_at_call 230;refine hnm.out.mono ?_;rintro en w' ⟨rfl,rfl⟩)|(go_at_call 269;refine hsd.out.mono ?_;rintro en w5 ⟨rfl,cs,hdig,S6⟩))
   all_goals (
    go_wp2_with fail;go_meet
    exact⟨cs,rfl,rfl,hdig,S6⟩)
  case rest=>
  obtain⟨cs,rfl,rfl,hdig,S6⟩:=hcut
  clear hsd hnm;have hz1:=Jbt (Jj6 d1) nd hnd1;have hz2:=Jf3 (Lib.decDigits D) nd;have hll:(Lib.decDigits D).length=nd:=by rw[Lib.decDigits_length,hnd.out]
  obtain⟨l,hl⟩:∃l,l=Lib.decDigits D:=⟨_,rfl⟩
  obtain⟨k,hk⟩:∃k,J4f l nd=k+1:=⟨J4f l nd - 1,by rw[hl];omega⟩
  rw[<-hl] at hz1 hz2 hll hdig⊢;rw[hk] at hz2⊢;obtain⟨t,ht⟩:∃t,t=l.take (k+1):=⟨_,rfl⟩
  have htl:t.length=k+1:=by rw[ht,List.length_take];omega
  have hlist:J4l b=t:=by rw[J4l,hfD.out,<-hl,<-hnd.out,hk,ht]
  have hpoint:J6z b=(nd:Int)+P:=by rw[J6z,hfD.out,hfP.out,<-hnd.out]
  have hDst:Jz w0 ((b1,.cells cs 355 (0,0))::r) [] (.slice a0 0 c0) wc:=⟨a0,c0,sl,rfl,hbs,S6.permR List.perm_middle.symm⟩
  have hdt:∀(j:Nat) (x:UInt8),t[j]? =some x->cs[j]? =some (bv x):=fun j x hj=>hdig j x (by
   rw[ht,List.getElem?_take] at hj;split at hj
   ·exact hj
   ·exact absurd hj (by simp))
  replace hbs:=hid hbs;replace hl:=hid hl;replace hll:=hid hll;replace hk:=hid hk;replace hm:=hid hm.out;clear S6 hdig hz1
  obtain⟨d0,ds,hds⟩:∃d0 ds,t=d0::ds:=by
   cases t with
   |nil=>simp at htl
   |cons a q=>exact⟨a,q,rfl⟩
  rw[hds] at htl hdt hlist;simp only[List.length_cons,Nat.add_right_cancel_iff] at htl
  have hT:J4m b=Jho ng d0 ds ((nd:Int)+P):=by
   rw[J4m,if_neg hm.out,hlist,hpoint,hng.out];rfl
  obtain⟨Lx,hLx⟩:∃Lx,Lx=Jho ng d0 ds ((nd:Int)+P):=⟨_,rfl⟩
  rw[<-hLx] at hT;replace hT:=hid hT;replace hlist:=hid hlist;replace hpoint:=hid hpoint;clear ht hds;have hfe:=(Jsy ng d0 ds k ((nd:Int)+P) hDst (List.mem_cons_self ..) htl.symm (by omega) hdt (by omega) (by omega)).mono fun _ _ he=>J1m.less he
  rw[<-hLx] at hfe;replace hLx:=hid hLx;clear hDst hdt;replace htl:=hid htl;cases k with
  |zero=>
   have hfe2:Hid (Calls Tryz.prog 267 #[.slice a0 0 c0,.bool ng,.slice (some ⟨b1,0,none⟩) 32 32,.int .i64 ((nd:Int)+P),.int .i64 1,.int .i64 0,.int .u8 101,.bool true] wc (J1m w0 r Lx)):=hid hfe;clear hfe;go_wp2_with fail;refine hfe2.out.mono ?_;rintro en w6 ⟨v,rfl,hv⟩;replace hv:=hid hv;go_wp2_with fail;go_ret;rw[hT.out];exact⟨v,rfl,hv.out⟩
  |succ k=>
   have hfe2:Hid (Calls Tryz.prog 267 #[.slice a0 0 c0,.bool ng,.slice (some ⟨b1,0,none⟩) 32 32,.int .i64 ((nd:Int)+P),.int .i64 ((k:Int)+1+1),.int .i64 ((k:Int)+1),.int .u8 101,.bool true] wc (J1m w0 r Lx)):=hid hfe;clear hfe;go_wp2_with fail;refine hfe2.out.mono ?_;rintro en w6 ⟨v,rfl,hv⟩;replace hv:=hid hv;go_wp2_with fail;go_ret;rw[hT.out];exact⟨v,rfl,hv.out⟩
theorem Jqb (neg:Bool) (h:Jz w0 r [] s w):
 Calls Tryz.prog 267 #[s,.bool neg,.slice none 0 0,.int .i64 0,.int .i64 0,.int .i64 (-1),.int .u8 101,.bool true] w (J1m w0 r (J1b neg++[48,101,43,48,48])):=by
 have hnl:(J1b neg).length<=1:=by cases neg<;>decide
 replace h:=hid h;go_enter Tryz.func267,Tryz.ntmps267;go_upto_if 78 with fail;go_cut [0] (fun s0 wc=>∃v,s0=v/\Jz w0 r (J1b neg) v wc)
 case first=>
  cases neg with
  |true=>
   obtain⟨v1,w1,hrun,h1⟩:=h.out.push [45] #[.int .u8 45] rfl 1 rfl (by decide) (by decide) 129
   replace hrun:=hid hrun;replace h1:=hid h1;go_wp2_with (at_builtin;refine J8 rfl _ _ _ _ rfl _ _ rfl rfl hrun.out ?_);go_meet
   exact⟨_,rfl,h1.out⟩
  |false=>
   go_wp2_with fail;go_meet
   exact⟨_,rfl,h.out⟩
 case rest=>
  obtain⟨v1,rfl,h1⟩:=hcut
  clear h;obtain⟨v2,w2,hrun2,h2⟩:=h1.push [48] #[.int .u8 48] rfl 1 rfl (by decide) (by first|omega|(simp only[List.length_append,List.length_cons,List.length_nil];omega)) 129
  obtain⟨v3,w3,hrun3,h3⟩:=h2.push [101] #[.int .u8 101] rfl 1 rfl (by decide) (by first|omega|(simp only[List.length_append,List.length_cons,List.length_nil];omega)) 129
  obtain⟨v4,w4,hrun4,h4⟩:=h3.push [43] #[.int .u8 43] rfl 1 rfl (by decide) (by first|omega|(simp only[List.length_append,List.length_cons,List.length_nil];omega)) 129
  obtain⟨v5,w5,hrun5,h5⟩:=h4.push [48,48] #[.int .u8 48,.int .u8 48] rfl 2 rfl (by decide) (by first|omega|(simp only[List.length_append,List.length_cons,List.length_nil];omega)) 129
  have hrun2:=hid hrun2;have hrun3:=hid hrun3;have hrun4:=hid hrun4;have hrun5:=hid hrun5;replace h5:=hid h5;clear h1 h2 h3 h4;go_upto_region 26 with (at_builtin;refine J8 rfl _ _ _ _ rfl _ _ rfl rfl hrun2.out ?_)
  clear hrun2;go_upto_region 38 with (at_builtin;refine J8 rfl _ _ _ _ rfl _ _ rfl rfl hrun3.out ?_)
  clear hrun3;go_upto_region 47 with (at_builtin;refine J8 rfl _ _ _ _ rfl _ _ rfl rfl hrun4.out ?_)
  clear hrun4;go_wp2_with (at_builtin;refine J8 rfl _ _ _ _ rfl _ _ rfl rfl hrun5.out ?_);go_ret;refine⟨_,rfl,?_⟩
  have h7:=h5.out;simpa using h7
theorem Jqc (neg:Bool) (h:Jz w0 r [] s w):
 Calls Tryz.prog 267 #[s,.bool neg,.slice none 0 0,.int .i64 0,.int .i64 0,.int .i64 (-1),.int .u8 102,.bool true] w (J1m w0 r (J1b neg++[48])):=by
 have hnl:(J1b neg).length<=1:=by cases neg<;>decide
 replace h:=hid h;go_enter Tryz.func267,Tryz.ntmps267;go_upto_if 178 with fail;go_cut [0] (fun s0 wc=>∃v,s0=v/\Jz w0 r (J1b neg) v wc)
 case first=>
  cases neg with
  |true=>
   obtain⟨v1,w1,hrun,h1⟩:=h.out.push [45] #[.int .u8 45] rfl 1 rfl (by decide) (by decide) 129
   replace hrun:=hid hrun;replace h1:=hid h1;go_wp2_with (at_builtin;refine J8 rfl _ _ _ _ rfl _ _ rfl rfl hrun.out ?_);go_meet
   exact⟨_,rfl,h1.out⟩
  |false=>
   go_wp2_with fail;go_meet
   exact⟨_,rfl,h.out⟩
 case rest=>
  obtain⟨v1,rfl,h1⟩:=hcut
  clear h;obtain⟨v2,w2,hrun2,h2⟩:=h1.push [48] #[.int .u8 48] rfl 1 rfl (by decide) (by first|omega|(simp only[List.length_append,List.length_cons,List.length_nil];omega)) 129
  have hrun2:=hid hrun2;replace h2:=hid h2;clear h1;go_wp2_with (at_builtin;refine J8 rfl _ _ _ _ rfl _ _ rfl rfl hrun2.out ?_);go_ret;exact⟨_,rfl,h2.out⟩
theorem Jwh (h:Jz w0 r [] s w) (b:Nat) (hb:b<18446744073709551616) (hm:fMa b=0):
 Calls Tryz.prog 241 #[s,.float .f64 b,.int .u8 101,.int .i64 (-1)] w (J1m w0 r (J4m b)):=by
 have hE0:fEx b=0:=by
  refine Decidable.byContradiction fun h0=>?_
  rw[fMa,if_neg h0] at hm;omega
 have hA0:b%4503599627370496=0:=by rw[fMa,if_pos hE0] at hm;exact hm
 obtain⟨ng,hng⟩:∃ng,ng=J7u b:=⟨_,rfl⟩
 have f1:((b:Int)/9223372036854775808 !=0)=ng:=by
  rw[hng,J7u,Bool.eq_iff_iff];simp;omega
 have f2:bits .and .i64 ((b:Int)/4503599627370496) 2047=0:=by
  have:=Jhy (b/4503599627370496) (by omega)
  rw[fEx] at hE0;rw[show b/4503599627370496%2048=0 from hE0] at this;exact this
 have f3:bits .and .u64 (b:Int) 4503599627370495=0:=by rw[Jhz b hb,hA0];rfl
 have hT:J4m b=J1b ng++[48,101,43,48,48]:=by rw[J4m,if_pos hm,hng]
 have hrb:=fun w=>J78 b w
 have hz:=fun (w':World) (h:Hid (Jz w0 r [] s w'))=>hid (Jqb ng h.out)
 replace h:=hid h;replace hE0:=hid hE0;replace hA0:=hid hA0;replace hng:=hid hng;replace hm:=hid hm;replace hT:=hid hT;go_enter Tryz.func241,Tryz.ntmps241;go_wp2_with fail;go_quiet (fail);have h1:=hid (h.out.drewN nq);generalize w.drewN nq=w1 at h1⊢;have hc:=hz w1 h1;go_wp2_with fail;refine hc.out.mono ?_;rintro en w6 ⟨v,rfl,hv⟩;replace hv:=hid hv;go_wp2_with fail;go_ret;rw[hT.out];exact⟨v,rfl,hv.out⟩
theorem Jwi (h:Jz w0 r [] s w) (b:Nat) (hb:b<18446744073709551616) (hm:fMa b=0):
 Calls Tryz.prog 241 #[s,.float .f64 b,.int .u8 102,.int .i64 (-1)] w (J1m w0 r (J7v b)):=by
 have hE0:fEx b=0:=by
  refine Decidable.byContradiction fun h0=>?_
  rw[fMa,if_neg h0] at hm;omega
 have hA0:b%4503599627370496=0:=by rw[fMa,if_pos hE0] at hm;exact hm
 obtain⟨ng,hng⟩:∃ng,ng=J7u b:=⟨_,rfl⟩
 have f1:((b:Int)/9223372036854775808 !=0)=ng:=by
  rw[hng,J7u,Bool.eq_iff_iff];simp;omega
 have f2:bits .and .i64 ((b:Int)/4503599627370496) 2047=0:=by
  have:=Jhy (b/4503599627370496) (by omega)
  rw[fEx] at hE0;rw[show b/4503599627370496%2048=0 from hE0] at this;exact this
 have f3:bits .and .u64 (b:Int) 4503599627370495=0:=by rw[Jhz b hb,hA0];rfl
 have hT:J7v b=J1b ng++[48]:=by rw[J7v,if_pos hm,hng]
 have hrb:=fun w=>J78 b w
 have hz:=fun (w':World) (h:Hid (Jz w0 r [] s w'))=>hid (Jqc ng h.out)
 replace h:=hid h;replace hE0:=hid hE0;replace hA0:=hid hA0;replace hng:=hid hng;replace hm:=hid hm;replace hT:=hid hT;go_enter Tryz.func241,Tryz.ntmps241;go_wp2_with fail;go_quiet (fail);have h1:=hid (h.out.drewN nq);generalize w.drewN nq=w1 at h1⊢;have hc:=hz w1 h1;go_wp2_with fail;refine hc.out.mono ?_;rintro en w6 ⟨v,rfl,hv⟩;replace hv:=hid hv;go_wp2_with fail;go_ret;rw[hT.out];exact⟨v,rfl,hv.out⟩
theorem Jyi (h:Jz w0 r [] s w) (hG:J17 w0) (hF:J49 w0) (b:Nat) (hb:b<18446744073709551616) (hx:fEx b≠2047) (hm:fMa b≠0):
 Calls Tryz.prog 241 #[s,.float .f64 b,.int .u8 102,.int .i64 (-1)] w (J1m w0 r (J7v b)):=by
 have hok:=fok hx hm;obtain⟨E,hE⟩:∃E,E=fEx b:=⟨_,rfl⟩
 obtain⟨A,hA⟩:∃A,A=b%4503599627370496:=⟨_,rfl⟩
 obtain⟨ng,hng⟩:∃ng,ng=J7u b:=⟨_,rfl⟩
 obtain⟨X,hX⟩:∃X,X=fXp b:=⟨_,rfl⟩
 obtain⟨M,hM⟩:∃M,M=fMa b:=⟨_,rfl⟩
 have f1:((b:Int)/9223372036854775808 !=0)=ng:=by
  rw[hng,J7u,Bool.eq_iff_iff];simp;omega
 have f2:bits .and .i64 ((b:Int)/4503599627370496) 2047=(E:Int):=by
  have:=Jhy (b/4503599627370496) (by omega)
  rw[hE,fEx];exact this
 have f3:bits .and .u64 (b:Int) 4503599627370495=(A:Int):=by rw[hA];exact Jhz b hb
 have hA2:A<4503599627370496:=by rw[hA];exact Nat.mod_lt _ (by decide)
 have hE2:E<2048:=by rw[hE];exact Nat.mod_lt _ (by decide)
 have f4:((E:Int)==2047)=false:=by
  have:E≠2047:=by rw[hE];exact hx
  simp;omega
 have f5:bits .or .u64 (A:Int) 4503599627370496=((A+4503599627370496:Nat):Int):=Jzu A hA2;have hM2:M=if E=0 then A else A+4503599627370496:=by rw[hM,fMa,hE,hA]
 have hX2:X=(if E=0 then 1 else(E:Int)) - 1023:=by rw[hX,fXp,hE]
 have hrb:=fun w=>J78 b w
 replace h:=hid h;replace hE:=hid hE;replace hA:=hid hA;replace hng:=hid hng;replace hX:=hid hX;replace hM:=hid hM;replace hM2:=hid hM2;replace hX2:=hid hX2;replace hok:=hid hok;replace hx:=hid hx;replace hm:=hid hm;go_enter Tryz.func241,Tryz.ntmps241;go_wp2_with fail;go_quiet (fail);go_upto_if 78 with fail;go_cut [14,15] (fun s14 s15 wc=>s14= .int .i64 (X+1023)/\s15= .int .u64 (M:Int)/\wc=w.drewN nq)
 case first=>
  by_cases h0:E=0
  ·have e1:X+1023=1:=by have:=hX2.out;rw[if_pos h0] at this;omega
   have e2:M=A:=by have:=hM2.out;rw[if_pos h0] at this;exact this
   subst h0;replace e1:=hid e1;replace e2:=hid e2;go_wp2_with fail;go_meet
   rw[e1.out,e2.out];exact⟨rfl,rfl,rfl⟩
  ·have e1:X+1023=E:=by have:=hX2.out;rw[if_neg h0] at this;omega
   have e2:M=A+4503599627370496:=by have:=hM2.out;rw[if_neg h0] at this;exact this
   have h1:((E:Int)==0)=false:=by simp;exact h0
   replace e1:=hid e1;replace e2:=hid e2;replace h0:=hid h0;go_wp2_with fail;go_meet
   rw[e1.out,e2.out];exact⟨rfl,rfl,rfl⟩
 case rest=>
  obtain⟨rfl,rfl,rfl⟩:=hcut
  have h1:=h.out.drewN nq;generalize w.drewN nq=w1 at h1⊢;clear h f2 f3 f5 hrb;obtain⟨a0,c0,sl,rfl,hbs,S1⟩:=h1
  have S2:=S1.alloc (.cells #[.int .u8 0,.int .u8 0,.int .u8 0,.int .u8 0,.int .u8 0,.int .u8 0,.int .u8 0,.int .u8 0,.int .u8 0,.int .u8 0,.int .u8 0,.int .u8 0,.int .u8 0,.int .u8 0,.int .u8 0,.int .u8 0,.int .u8 0,.int .u8 0,.int .u8 0,.int .u8 0,.int .u8 0,.int .u8 0,.int .u8 0,.int .u8 0,.int .u8 0,.int .u8 0,.int .u8 0,.int .u8 0,.int .u8 0,.int .u8 0,.int .u8 0,.int .u8 0] 355);obtain⟨b1,hb1⟩:∃b1,b1=w1.heap.size:=⟨_,rfl⟩
  rw[<-hb1] at S2;have g1:((M:Int)==0)=false:=by have:=hm.out;rw[<-hM.out] at this;simpa using this
  have g2:X+1023+ -1023=X:=by omega
  obtain⟨sh,hsh⟩:∃sh,sh=fSh b:=⟨_,rfl⟩
  have k1:=hok.out.sh0;have k2:=hok.out.sh1;have k3:=hok.out.len;have k4:=hok.out.m0;have k5:=hok.out.m1;have k6:=hok.out.e0;have k7:=hok.out.e1;have k8:=J79 k4 k5 k6 k7;have k9:=fun (w':World) (L:Hp) (hS:J3 w0 [] w' L)=>Jgi hS hF _ _ k4 k5 k6 k7
  have hfd:J7t b=J38 (fMa b*2 ^fSh b) (fXp b - fSh b - 52):=rfl;rw[<-hM.out,<-hsh] at k3 k4 k5 hfd k8;rw[<-hX.out] at k6 k7 hfd k8 k5;rw[<-hsh] at k1 k2 k6 k7;rw[<-hX.out,<-hM.out,<-hsh] at k9;obtain⟨m,hmm⟩:∃m,m=M*2 ^sh:=⟨_,rfl⟩
  rw[<-hmm] at k4 k5 k8 k9 hfd
  have hm64:m<18446744073709551616:=by
   have:0<2 ^(if -1085<=X - (sh:Int) - 52 then 11 else(-1074 - (X - (sh:Int) - 52)).toNat):=Nat.pow_pos (by decide)
   omega
  obtain⟨D,hD⟩:∃D,D=(J38 m (X - sh - 52)).1:=⟨_,rfl⟩
  obtain⟨P,hP⟩:∃P,P=(J38 m (X - sh - 52)).2:=⟨_,rfl⟩
  rw[<-hD,<-hP] at k8 k9;have hfD:(J7t b).1=D:=by rw[hfd,<-hD]
  have hfP:(J7t b).2=P:=by rw[hfd,<-hP]
  obtain⟨d1,d2,d3,d4⟩:=k8
  obtain⟨nd,hnd⟩:∃nd,nd=Lib.nDigits D:=⟨_,rfl⟩
  have hnd20:nd<=20:=by rw[hnd];exact Lib.nDigits_le20 D (by omega)
  have hnd1:1<=nd:=by rw[hnd];exact Lib.nDigits_pos D
  have hlen:∀w',Hid (Calls Tryz.prog 129 #[.int .u64 (M:Int)] w' fun e w''=>e= .returned (.int .i64 (64 - (sh:Int)))/\w''=w'):=fun w'=>hid (by
   have hM53:M<18446744073709551616:=by
    have:M*1<=M*2 ^sh:=Nat.mul_le_mul_left _ (Nat.pow_pos (by decide))
    omega
   have:=Tryz.bits_Len64 (M:Int) w' (by omega) (by omega)
   rw[Int.toNat_natCast,k3] at this;have e1:((64 - sh:Nat):Int)=64 - (sh:Int):=by omega
   rw[e1] at this;exact this)
  have g3:64 - (64 - (sh:Int))=sh:=by omega
  have g4:IntKind.u64.wrap ((M:Int)*2 ^sh)=(m:Int):=by
   rw[show(M:Int)*2 ^sh=((M*2 ^sh:Nat):Int) by simp,<-hmm,IntKind.wrap_u64];omega
  have hnum:∀(w':World) (L:Hp),J3 w0 [] w' L->Calls Tryz.prog 230 #[.int .u64 (D:Int)] w' (fun e w''=>e= .returned (.int .i64 (nd:Int))/\w''=w'):=fun w' L hS=>by
   have:=Tryz.internal_strconv_numDigits D d1 (by omega) w' (hG.keep hS).tab
   rw[<-hnd] at this;exact this
  replace hfd:=hid hfd;replace hfD:=hid hfD;replace hfP:=hid hfP;replace hmm:=hid hmm;replace hD:=hid hD;replace hP:=hid hP;replace hsh:=hid hsh;replace hnd:=hid hnd;replace k3:=hid k3;replace k5:=hid k5;replace k9:=hid k9;replace hnum:=hid hnum;clear S1;replace S2:=hid S2;go_wp2_with fail;refine(hlen _).out.mono ?_
  rintro en w' ⟨rfl,rfl⟩;rw[<-hb1];replace hb1:=hid hb1;generalize hw2:w1.alloc _=w2 at S2⊢;clear hw2;replace S2:Hid (J3 w0 [] w2 ((b1,.cells (Array.replicate 32 (.int .u8 0)) 355 (0,0))::(sl++r))):=hid S2.out;have hsf:=k9.out w2 _ S2.out;replace hsf:=hid hsf;go_wp2_with fail;refine hsf.out.mono ?_;rintro en w3 ⟨rfl,S3⟩;clear hsf hlen;obtain⟨L,hL⟩:∃L:Hp,L=(b1,.cells (Array.replicate 32 (.int .u8 0)) 355 (0,0))::(sl++r):=⟨_,rfl⟩
  have S4:J3 w0 [] w3 L:=by rw[hL];exact S3
  replace hL:=hid hL;go_wp2_with fail;have S5:=S4.drew;have hnm:=hid (hnum.out w3.drew L S5);rw[hL.out] at S5;have hsd:=hid (Jev S5 D d1 (by omega) P (by omega) (by omega) nd hnd.out)
  clear S4 S2 S3 hnum hL S5;go_cut [22,23] (fun s22 s23 wc=>∃cs:Array Value,s22= .int .i64 ((nd:Int)+P)/\s23= .int .i64 (J4f (Lib.decDigits D) nd:Nat)/\Jo4 cs (Lib.decDigits D)/\J3 w0 [] wc ((b1,.cells cs 355 (0,0))::(sl++r)))
  case first=>
   go_region_with (first|(go_at_call 230;refine hnm.out.mono ?_;rintro en w' ⟨rfl,rfl⟩)|(go_at_call 269;refine hsd.out.mono ?_;rintro en w5 ⟨rfl,cs,hdig,S6⟩))
   all_goals (
    go_wp2_with fail;go_meet
    exact⟨cs,rfl,rfl,hdig,S6⟩)
  case rest=>
  obtain⟨cs,rfl,rfl,hdig,S6⟩:=hcut
  clear hsd hnm;have hz1:=Jbt (Jj6 d1) nd hnd1;have hz2:=Jf3 (Lib.decDigits D) nd;have hll:(Lib.decDigits D).length=nd:=by rw[Lib.decDigits_length,hnd.out]
  obtain⟨l,hl⟩:∃l,l=Lib.decDigits D:=⟨_,rfl⟩
  obtain⟨k,hk⟩:∃k,J4f l nd=k+1:=⟨J4f l nd - 1,by rw[hl];omega⟩
  rw[<-hl] at hz1 hz2 hll hdig⊢;rw[hk] at hz2⊢;obtain⟨t,ht⟩:∃t,t=l.take (k+1):=⟨_,rfl⟩
  have htl:t.length=k+1:=by rw[ht,List.length_take];omega
  have hlist:J4l b=t:=by rw[J4l,hfD.out,<-hl,<-hnd.out,hk,ht]
  have hpoint:J6z b=(nd:Int)+P:=by rw[J6z,hfD.out,hfP.out,<-hnd.out]
  have hDst:Jz w0 ((b1,.cells cs 355 (0,0))::r) [] (.slice a0 0 c0) wc:=⟨a0,c0,sl,rfl,hbs,S6.permR List.perm_middle.symm⟩
  have hdt:∀(j:Nat) (x:UInt8),t[j]? =some x->cs[j]? =some (bv x):=fun j x hj=>hdig j x (by
   rw[ht,List.getElem?_take] at hj;split at hj
   ·exact hj
   ·exact absurd hj (by simp))
  replace hbs:=hid hbs;replace hl:=hid hl;replace hll:=hid hll;replace hk:=hid hk;replace hm:=hid hm.out;clear S6 hdig hz1;obtain⟨Lx,hLx⟩:∃Lx,Lx=Jwc ng t ((nd:Int)+P):=⟨_,rfl⟩
  have hT:J7v b=Lx:=by
   rw[J7v,if_neg hm.out,hlist,hpoint,hLx,hng.out]
  have hfe:=(Jsz ng t (k+1) ((nd:Int)+P) (max ((k:Int)+1 - ((nd:Int)+P)) 0) hDst (List.mem_cons_self ..) htl.symm (by omega) (by omega) rfl hdt (by omega) (by omega)).mono fun _ _ he=>J1m.less he
  rw[<-hLx] at hfe;replace hT:=hid hT;replace hLx:=hid hLx;replace hlist:=hid hlist;replace hpoint:=hid hpoint;replace htl:=hid htl;clear ht hDst hdt;have hfe2:Hid (Calls Tryz.prog 267 #[.slice a0 0 c0,.bool ng,.slice (some ⟨b1,0,none⟩) 32 32,.int .i64 ((nd:Int)+P),.int .i64 ((k:Int)+1),.int .i64 (max ((k:Int)+1 - ((nd:Int)+P)) 0),.int .u8 102,.bool true] wc (J1m w0 r Lx)):=hid hfe;clear hfe;go_wp2_with fail;refine hfe2.out.mono ?_;rintro en w6 ⟨v,rfl,hv⟩;replace hv:=hid hv;go_wp2_with fail;go_ret;rw[hT.out];exact⟨v,rfl,hv.out⟩
def fgt (b:Nat):Bool:=FloatKind.f64.format.order b 9218868437227405311==some .gt
theorem Jtj (b:Nat) (w:World):Calls Tryz.prog 197 #[.float .f64 b,.int .i64 1] w fun e w'=>e= .returned (.bool (fgt b))/\w'=w:=by
 go_enter Tryz.func197,Tryz.ntmps197;go_wp2_with fail;go_ret;exact⟨rfl,rfl⟩
def Jqd (b:Nat):Nat:=Op.negFloat .f64 b
theorem Jgo (b:Nat):Op.unary .neg (.float .f64 b)=pure (.float .f64 (Jqd b)):=rfl
theorem Jmk (b:Nat) (w:World):Calls Tryz.prog 197 #[.float .f64 b,.int .i64 (-1)] w fun e w'=>e= .returned (.bool (fgt (Jqd b)))/\w'=w:=by
 have hn:=Jgo b;go_enter Tryz.func197,Tryz.ntmps197;go_wp2_with fail;go_ret;exact⟨rfl,rfl⟩
def Jf9 (b:Nat):Nat:=(bits .andNot .u64 (b:Int) 9223372036854775808).toNat
theorem Jvz (b:Nat) (w:World):Calls Tryz.prog 221 #[.float .f64 b] w fun e w'=>e= .returned (.float .f64 (Jf9 b))/\w'=w:=by
 have h1:=fun w=>Jkw b w
 have h2:=fun w=>J5v (bits .andNot .u64 (b:Int) 9223372036854775808) w
 go_enter Tryz.func221,Tryz.ntmps221;go_wp2_with fail;go_ret;exact⟨rfl,rfl⟩
theorem Jg2 (b:Nat) (w:World):Calls Tryz.prog 197 #[.float .f64 b,.int .i64 0] w fun e w'=>e= .returned (.bool (fgt (Jf9 b)))/\w'=w:=by
 go_enter Tryz.func197,Tryz.ntmps197;go_wp2_with (go_at_call 221;refine(Jvz _ _).mono ?_;rintro e w' ⟨rfl,rfl⟩);go_ret;exact⟨rfl,rfl⟩
def J12 (b:Nat):Bool:=!Jt1 b&&!fgt (Jf9 b)
theorem Jds (b:Nat) (w:World):Calls Tryz.prog 158 #[.float .f64 b] w fun e w'=>e= .returned (.bool (J12 b))/\w'=w:=by
 cases hn:Jt1 b with
 |true=>
  have h1:=J8v b;rw[hn] at h1;have hT:J12 b=false:=by unfold J12;rw[hn];rfl
  go_enter Tryz.func158,Tryz.ntmps158;go_wp2_with (go_at_call 196;refine(h1 _).mono ?_;rintro e w' ⟨rfl,rfl⟩);go_ret;rw[hT];exact⟨rfl,rfl⟩
 |false=>
  have h1:=J8v b;rw[hn] at h1;have hT:J12 b= !fgt (Jf9 b):=by unfold J12;rw[hn];rfl
  rw[hT];go_enter Tryz.func158,Tryz.ntmps158;go_wp2_with (first|(go_at_call 196;refine(h1 _).mono ?_;rintro e w' ⟨rfl,rfl⟩)|(go_at_call 197;refine(Jg2 b _).mono ?_;rintro e w' ⟨rfl,rfl⟩))
  go_ret;exact⟨rfl,rfl⟩
end Go.Proofs.YtncbcaabanoeoaaGreatDoor
