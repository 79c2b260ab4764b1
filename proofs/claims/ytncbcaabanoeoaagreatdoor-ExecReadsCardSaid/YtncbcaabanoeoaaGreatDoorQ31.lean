/-
strconv.shortFloat, walked (printed by gen_short.py).
-/
import Derived.Lib.ItoaLen
import Derived.Test.YtncbcaabanoeoaaGreatDoorQ13
import Derived.Test.YtncbcaabanoeoaaGreatDoorQ30
set_option linter.unusedVariables false
set_option linter.unusedSimpArgs false
set_option maxRecDepth 100000
set_option maxHeartbeats 8000000
namespace Go.Proofs.YtncbcaabanoeoaaGreatDoor
open Go Go.RowKit
variable {w0 w:World}{r:Hp}
theorem Jiu (n:Nat) (h:n<9223372036854775808):bits .and .i64 (n:Int) 1=((n%2:Nat):Int):=by
 have hm:=bits_mask .i64 63 (by decide) (fun n h0 h1=>by simp[IntKind.wrap,IntKind.bits,IntKind.signed];omega) 1 (by decide) (n:Int) (by omega) (by omega)
 exact hm
theorem J3l {b:Nat} {e p:Int} (hS:J3 w0 [] w ((b,J1y (J2r p) (J36 p) (scS e p))::r)) (hk:Jh2 e p) (x:Nat) (hx:x<2 ^64):
 Calls Tryz.prog 283 #[.int .u64 x,ptr b] w (J3m w0 ((b,J1y (J2r p) (J36 p) (scS e p))::r) (.int .u64 (uq x e p:Nat))):=by
 have hp:p=(((p+348).toNat:Nat):Int) - 348:=by have:=hk.p0;omega
 have hb:=Jbf (i:=(p+348).toNat) (by have:=hk.p1;have:=hk.p0;omega)
 rw[<-hp] at hb;have h0:=hk.s0;have h1:=hk.s1;have hs:scS e p=(((scS e p).toNat:Nat):Int):=by omega
 have:=Jpe (s:=(scS e p).toNat) (by rw[<-hs];exact hS) x hx hb.2.1 hb.2.2 (by omega)
 rw[<-hs] at this;exact this
theorem Jx7 (hS:J3 w0 [] w r) (hF:J49 w0) (m:Nat) (e:Int) (hm:2 ^63<=m) (hm2:m+2048<=2 ^64) (h0: -1085<=e) (h1:e<=960) (hne:¬m=9223372036854775808):
 Calls Tryz.prog 274 #[.int .u64 m,.int .i64 e] w (J3m w0 r (.tuple #[.int .u64 (shB m e).1,.int .i64 (shB m e).2])):=by
 have hk:=scB e h0 h1;obtain⟨p,hp⟩:∃p,p= -((e+11)*78913/262144):=⟨_,rfl⟩
 obtain⟨odd,hodd⟩:∃odd,odd=m/2048%2:=⟨_,rfl⟩
 obtain⟨T,hT⟩:∃T,T=shB m e:=⟨_,rfl⟩
 rw[<-hT];unfold shB at hT;rw[<-hp] at hk hT;rw[<-hodd] at hT;have ho1:odd<=1:=by omega
 have k0:=hk.p0;have k1:=hk.p1;have k2:=hk.s0;have k3:=hk.s1
 have bo2:bits .and .i64 ((m:Int)/2048) 1=(odd:Int):=by
  have bo:=Jiu (m/2048) (by omega)
  rw[<-hodd] at bo;exact bo
 obtain⟨b1,b1'⟩:=J0g (x:=m - 1024) (by omega) (by omega) hk
 obtain⟨b2,b2'⟩:=J0g (x:=m+1024) (by omega) (by omega) hk
 obtain⟨b3,b3'⟩:=J0g (x:=m) (by omega) (by omega) hk
 have S1:=hid (hS.alloc (.cells #[.int .u64 0,.int .u64 0,.int .i64 0] 366));have hmn:((m - 1024:Nat):Int)=(m:Int) - 1024:=by omega
 have hmx:((m+1024:Nat):Int)=(m:Int)+1024:=by omega
 have u1:=fun (w:World) (b:Nat) (hs:Hid (J3 w0 [] w ((b,J1y (J2r p) (J36 p) (scS e p))::r)))=>hid (J3l hs.out hk (m - 1024) (by omega))
 have u2:=fun (w:World) (b:Nat) (hs:Hid (J3 w0 [] w ((b,J1y (J2r p) (J36 p) (scS e p))::r)))=>hid (J3l hs.out hk (m+1024) (by omega))
 have u3:=fun (w:World) (b:Nat) (hs:Hid (J3 w0 [] w ((b,J1y (J2r p) (J36 p) (scS e p))::r)))=>hid (J3l hs.out hk m (by omega))
 rw[hmn] at u1;rw[hmx] at u2;unfold J37 at hT;generalize uq (m - 1024) e p=U at *;generalize uq (m+1024) e p=V at *;generalize uq m e p=W at *;obtain⟨D,hD⟩:∃D,D=(U+odd+3)/4:=⟨_,rfl⟩
 obtain⟨X,hX⟩:∃X,X=(V - odd)/4:=⟨_,rfl⟩
 have hD2:D<=9223372036854775807:=by omega
 have hX2:X<=9223372036854775807:=by omega
 have hce:=fun w=>J7p (U+odd) (by omega) w
 have hfl:=fun w=>J6c (V - odd) (by omega) w
 rw[<-hD] at hT hce;rw[<-hX] at hT hfl;replace hD:=hid hD;replace hX:=hid hX;replace hce:=hid hce;replace hfl:=hid hfl;replace u1:=hid u1;replace u2:=hid u2;replace u3:=hid u3;replace hp:=hid hp;replace hk:=hid hk;replace hodd:=hid hodd;replace hT:=hid hT;clear hS hmn hmx;have hpe:(e+11)*78913/262144= -p:=by rw[hp.out];omega
 go_enter Tryz.func274,Tryz.ntmps274;go_wp2_with fail;refine(J8x (e+11) (by omega) (by omega) _).mono ?_
 rintro en w' ⟨rfl,rfl⟩;go_wp2_with fail;refine(J4w p (by omega) (by omega) _).mono ?_
 rintro en w' ⟨rfl,rfl⟩;have hpi:(((p+348).toNat:Nat):Int) - 348=p:=by omega
 have hpre:=J92 S1.out hF e (by omega) (by omega) (p+348).toNat (by omega) (p*108853/32768) (by omega) (by omega)
 rw[hpi] at hpre;replace hpre:=hid hpre;clear hpi S1;go_wp2_with fail;refine hpre.out.mono ?_;rintro en w2 ⟨rfl,S2⟩;generalize w'.heap.size=b at S2⊢;replace S2:Hid (J3 w0 [] w2 ((b,J1y (J2r p) (J36 p) (scS e p))::r)):=hid S2;clear hpre;have c1:=u1.out w2 b S2;go_wp2_with fail;refine c1.out.mono ?_;rintro en w3 ⟨rfl,S3⟩;replace S3:=hid S3;clear c1 S2;go_wp2_with fail;refine(J86 U odd ho1 (by omega) _).mono ?_
 rintro en w' ⟨rfl,rfl⟩;go_wp2_with fail;refine(hce.out _).mono ?_
 rintro en w' ⟨rfl,rfl⟩;have c2:=u2.out w' b S3;go_wp2_with fail;refine c2.out.mono ?_;rintro en w4 ⟨rfl,S4⟩;replace S4:=hid S4;clear c2 S3;go_wp2_with fail;refine(J5b V odd ho1 (by omega) (by omega) _).mono ?_
 rintro en w' ⟨rfl,rfl⟩;go_wp2_with fail;refine(hfl.out _).mono ?_
 rintro en w' ⟨rfl,rfl⟩;by_cases g1:D<=X/10*10
 ·have g2:(D:Int)<=(X:Int)/10*10:=by omega
  have r1:T=(X/10,-(p - 1)):=by rw[hT.out,if_pos g1]
  replace r1:=hid r1;go_wp2_with fail;go_ret2;rw[r1.out];exact⟨rfl,S4.out.less (List.sublist_cons_self _ _)⟩
 ·have g2:¬(D:Int)<=(X:Int)/10*10:=by omega
  by_cases g3:D<X
  ·have r1:T=((W+1+W/4%2)/4,-p):=by rw[hT.out,if_neg g1,if_pos g3]
   replace r1:=hid r1;have c3:=u3.out w' b S4;go_wp2_with fail;refine c3.out.mono ?_;rintro en w5 ⟨rfl,S5⟩;replace S5:=hid S5;clear c3 S4;go_wp2_with fail;refine(J46 W (by omega) _).mono ?_
   rintro en w' ⟨rfl,rfl⟩;go_wp2_with fail;go_ret2;rw[r1.out];exact⟨rfl,S5.out.less (List.sublist_cons_self _ _)⟩
  ·have r1:T=(D,-p):=by rw[hT.out,if_neg g1,if_neg g3]
   replace r1:=hid r1;go_wp2_with fail;go_ret2;rw[r1.out];exact⟨rfl,S4.out.less (List.sublist_cons_self _ _)⟩
theorem Juy (hS:J3 w0 [] w r) (hF:J49 w0) (m:Nat) (e:Int) (hm:2 ^63<=m) (hm0:m=9223372036854775808) (h0:e= -1085):
 Calls Tryz.prog 274 #[.int .u64 m,.int .i64 e] w (J3m w0 r (.tuple #[.int .u64 (shB m e).1,.int .i64 (shB m e).2])):=by
 have q1:((m:Int)==9223372036854775808)=true:=by rw[hm0];rfl
 have hm2:m+2048<=2 ^64:=by omega
 have hk:=scB e (by omega) (by omega)
 have q2:¬ -1085<e:=by omega
 have q3: -1085<=e:=by omega
 have q4:e<=960:=by omega
 replace hm0:=hid hm0;replace h0:=hid h0;obtain⟨p,hp⟩:∃p,p= -((e+11)*78913/262144):=⟨_,rfl⟩
 obtain⟨odd,hodd⟩:∃odd,odd=m/2048%2:=⟨_,rfl⟩
 obtain⟨T,hT⟩:∃T,T=shB m e:=⟨_,rfl⟩
 rw[<-hT];unfold shB at hT;rw[<-hp] at hk hT;rw[<-hodd] at hT;have ho1:odd<=1:=by omega
 have k0:=hk.p0;have k1:=hk.p1;have k2:=hk.s0;have k3:=hk.s1
 have bo2:bits .and .i64 ((m:Int)/2048) 1=(odd:Int):=by
  have bo:=Jiu (m/2048) (by omega)
  rw[<-hodd] at bo;exact bo
 obtain⟨b1,b1'⟩:=J0g (x:=m - 1024) (by omega) (by omega) hk
 obtain⟨b2,b2'⟩:=J0g (x:=m+1024) (by omega) (by omega) hk
 obtain⟨b3,b3'⟩:=J0g (x:=m) (by omega) (by omega) hk
 have S1:=hid (hS.alloc (.cells #[.int .u64 0,.int .u64 0,.int .i64 0] 366));have hmn:((m - 1024:Nat):Int)=(m:Int) - 1024:=by omega
 have hmx:((m+1024:Nat):Int)=(m:Int)+1024:=by omega
 have u1:=fun (w:World) (b:Nat) (hs:Hid (J3 w0 [] w ((b,J1y (J2r p) (J36 p) (scS e p))::r)))=>hid (J3l hs.out hk (m - 1024) (by omega))
 have u2:=fun (w:World) (b:Nat) (hs:Hid (J3 w0 [] w ((b,J1y (J2r p) (J36 p) (scS e p))::r)))=>hid (J3l hs.out hk (m+1024) (by omega))
 have u3:=fun (w:World) (b:Nat) (hs:Hid (J3 w0 [] w ((b,J1y (J2r p) (J36 p) (scS e p))::r)))=>hid (J3l hs.out hk m (by omega))
 rw[hmn] at u1;rw[hmx] at u2;unfold J37 at hT;generalize uq (m - 1024) e p=U at *;generalize uq (m+1024) e p=V at *;generalize uq m e p=W at *;obtain⟨D,hD⟩:∃D,D=(U+odd+3)/4:=⟨_,rfl⟩
 obtain⟨X,hX⟩:∃X,X=(V - odd)/4:=⟨_,rfl⟩
 have hD2:D<=9223372036854775807:=by omega
 have hX2:X<=9223372036854775807:=by omega
 have hce:=fun w=>J7p (U+odd) (by omega) w
 have hfl:=fun w=>J6c (V - odd) (by omega) w
 rw[<-hD] at hT hce;rw[<-hX] at hT hfl;replace hD:=hid hD;replace hX:=hid hX;replace hce:=hid hce;replace hfl:=hid hfl;replace u1:=hid u1;replace u2:=hid u2;replace u3:=hid u3;replace hp:=hid hp;replace hk:=hid hk;replace hodd:=hid hodd;replace hT:=hid hT;clear hS hmn hmx;have hpe:(e+11)*78913/262144= -p:=by rw[hp.out];omega
 go_enter Tryz.func274,Tryz.ntmps274;go_wp2_with fail;refine(J8x (e+11) (by omega) (by omega) _).mono ?_
 rintro en w' ⟨rfl,rfl⟩;go_wp2_with fail;refine(J4w p (by omega) (by omega) _).mono ?_
 rintro en w' ⟨rfl,rfl⟩;have hpi:(((p+348).toNat:Nat):Int) - 348=p:=by omega
 have hpre:=J92 S1.out hF e (by omega) (by omega) (p+348).toNat (by omega) (p*108853/32768) (by omega) (by omega)
 rw[hpi] at hpre;replace hpre:=hid hpre;clear hpi S1;go_wp2_with fail;refine hpre.out.mono ?_;rintro en w2 ⟨rfl,S2⟩;generalize w'.heap.size=b at S2⊢;replace S2:Hid (J3 w0 [] w2 ((b,J1y (J2r p) (J36 p) (scS e p))::r)):=hid S2;clear hpre;have c1:=u1.out w2 b S2;go_wp2_with fail;refine c1.out.mono ?_;rintro en w3 ⟨rfl,S3⟩;replace S3:=hid S3;clear c1 S2;go_wp2_with fail;refine(J86 U odd ho1 (by omega) _).mono ?_
 rintro en w' ⟨rfl,rfl⟩;go_wp2_with fail;refine(hce.out _).mono ?_
 rintro en w' ⟨rfl,rfl⟩;have c2:=u2.out w' b S3;go_wp2_with fail;refine c2.out.mono ?_;rintro en w4 ⟨rfl,S4⟩;replace S4:=hid S4;clear c2 S3;go_wp2_with fail;refine(J5b V odd ho1 (by omega) (by omega) _).mono ?_
 rintro en w' ⟨rfl,rfl⟩;go_wp2_with fail;refine(hfl.out _).mono ?_
 rintro en w' ⟨rfl,rfl⟩;by_cases g1:D<=X/10*10
 ·have g2:(D:Int)<=(X:Int)/10*10:=by omega
  have r1:T=(X/10,-(p - 1)):=by rw[hT.out,if_pos g1]
  replace r1:=hid r1;go_wp2_with fail;go_ret2;rw[r1.out];exact⟨rfl,S4.out.less (List.sublist_cons_self _ _)⟩
 ·have g2:¬(D:Int)<=(X:Int)/10*10:=by omega
  by_cases g3:D<X
  ·have r1:T=((W+1+W/4%2)/4,-p):=by rw[hT.out,if_neg g1,if_pos g3]
   replace r1:=hid r1;have c3:=u3.out w' b S4;go_wp2_with fail;refine c3.out.mono ?_;rintro en w5 ⟨rfl,S5⟩;replace S5:=hid S5;clear c3 S4;go_wp2_with fail;refine(J46 W (by omega) _).mono ?_
   rintro en w' ⟨rfl,rfl⟩;go_wp2_with fail;go_ret2;rw[r1.out];exact⟨rfl,S5.out.less (List.sublist_cons_self _ _)⟩
  ·have r1:T=(D,-p):=by rw[hT.out,if_neg g1,if_neg g3]
   replace r1:=hid r1;go_wp2_with fail;go_ret2;rw[r1.out];exact⟨rfl,S4.out.less (List.sublist_cons_self _ _)⟩
theorem Jx6 (hS:J3 w0 [] w r) (hF:J49 w0) (m:Nat) (e:Int) (hm:2 ^63<=m) (hm0:m=9223372036854775808) (h0: -1085<e) (h1:e<=960):
 Calls Tryz.prog 274 #[.int .u64 m,.int .i64 e] w (J3m w0 r (.tuple #[.int .u64 (shA m e).1,.int .i64 (shA m e).2])):=by
 have q1:((m:Int)==9223372036854775808)=true:=by rw[hm0];rfl
 have hm2:m+2048<=2 ^64:=by omega
 have hk:=scA e (by omega) h1
 replace hm0:=hid hm0;obtain⟨p,hp⟩:∃p,p= -(((e+11)*631305 - 261663)/2097152):=⟨_,rfl⟩
 obtain⟨odd,hodd⟩:∃odd,odd=m/2048%2:=⟨_,rfl⟩
 obtain⟨T,hT⟩:∃T,T=shA m e:=⟨_,rfl⟩
 rw[<-hT];unfold shA at hT;rw[<-hp] at hk hT;rw[<-hodd] at hT;have ho1:odd<=1:=by omega
 have k0:=hk.p0;have k1:=hk.p1;have k2:=hk.s0;have k3:=hk.s1
 have bo2:bits .and .i64 ((m:Int)/2048) 1=(odd:Int):=by
  have bo:=Jiu (m/2048) (by omega)
  rw[<-hodd] at bo;exact bo
 obtain⟨b1,b1'⟩:=J0g (x:=m - 512) (by omega) (by omega) hk
 obtain⟨b2,b2'⟩:=J0g (x:=m+1024) (by omega) (by omega) hk
 obtain⟨b3,b3'⟩:=J0g (x:=m) (by omega) (by omega) hk
 have S1:=hid (hS.alloc (.cells #[.int .u64 0,.int .u64 0,.int .i64 0] 366));have hmn:((m - 512:Nat):Int)=(m:Int) - 512:=by omega
 have hmx:((m+1024:Nat):Int)=(m:Int)+1024:=by omega
 have u1:=fun (w:World) (b:Nat) (hs:Hid (J3 w0 [] w ((b,J1y (J2r p) (J36 p) (scS e p))::r)))=>hid (J3l hs.out hk (m - 512) (by omega))
 have u2:=fun (w:World) (b:Nat) (hs:Hid (J3 w0 [] w ((b,J1y (J2r p) (J36 p) (scS e p))::r)))=>hid (J3l hs.out hk (m+1024) (by omega))
 have u3:=fun (w:World) (b:Nat) (hs:Hid (J3 w0 [] w ((b,J1y (J2r p) (J36 p) (scS e p))::r)))=>hid (J3l hs.out hk m (by omega))
 rw[hmn] at u1;rw[hmx] at u2;unfold J37 at hT;generalize uq (m - 512) e p=U at *;generalize uq (m+1024) e p=V at *;generalize uq m e p=W at *;obtain⟨D,hD⟩:∃D,D=(U+odd+3)/4:=⟨_,rfl⟩
 obtain⟨X,hX⟩:∃X,X=(V - odd)/4:=⟨_,rfl⟩
 have hD2:D<=9223372036854775807:=by omega
 have hX2:X<=9223372036854775807:=by omega
 have hce:=fun w=>J7p (U+odd) (by omega) w
 have hfl:=fun w=>J6c (V - odd) (by omega) w
 rw[<-hD] at hT hce;rw[<-hX] at hT hfl;replace hD:=hid hD;replace hX:=hid hX;replace hce:=hid hce;replace hfl:=hid hfl;replace u1:=hid u1;replace u2:=hid u2;replace u3:=hid u3;replace hp:=hid hp;replace hk:=hid hk;replace hodd:=hid hodd;replace hT:=hid hT;clear hS hmn hmx;have hpe:((e+11)*631305 - 261663)/2097152= -p:=by rw[hp.out];omega
 go_enter Tryz.func274,Tryz.ntmps274;go_wp2_with fail;refine(Jnl (e+11) (by omega) (by omega) _).mono ?_
 rintro en w' ⟨rfl,rfl⟩;go_wp2_with fail;refine(J4w p (by omega) (by omega) _).mono ?_
 rintro en w' ⟨rfl,rfl⟩;have hpi:(((p+348).toNat:Nat):Int) - 348=p:=by omega
 have hpre:=J92 S1.out hF e (by omega) (by omega) (p+348).toNat (by omega) (p*108853/32768) (by omega) (by omega)
 rw[hpi] at hpre;replace hpre:=hid hpre;clear hpi S1;go_wp2_with fail;refine hpre.out.mono ?_;rintro en w2 ⟨rfl,S2⟩;generalize w'.heap.size=b at S2⊢;replace S2:Hid (J3 w0 [] w2 ((b,J1y (J2r p) (J36 p) (scS e p))::r)):=hid S2;clear hpre;have c1:=u1.out w2 b S2;go_wp2_with fail;refine c1.out.mono ?_;rintro en w3 ⟨rfl,S3⟩;replace S3:=hid S3;clear c1 S2;go_wp2_with fail;refine(J86 U odd ho1 (by omega) _).mono ?_
 rintro en w' ⟨rfl,rfl⟩;go_wp2_with fail;refine(hce.out _).mono ?_
 rintro en w' ⟨rfl,rfl⟩;have c2:=u2.out w' b S3;go_wp2_with fail;refine c2.out.mono ?_;rintro en w4 ⟨rfl,S4⟩;replace S4:=hid S4;clear c2 S3;go_wp2_with fail;refine(J5b V odd ho1 (by omega) (by omega) _).mono ?_
 rintro en w' ⟨rfl,rfl⟩;go_wp2_with fail;refine(hfl.out _).mono ?_
 rintro en w' ⟨rfl,rfl⟩;by_cases g1:D<=X/10*10
 ·have g2:(D:Int)<=(X:Int)/10*10:=by omega
  have r1:T=(X/10,-(p - 1)):=by rw[hT.out,if_pos g1]
  replace r1:=hid r1;go_wp2_with fail;go_ret2;rw[r1.out];exact⟨rfl,S4.out.less (List.sublist_cons_self _ _)⟩
 ·have g2:¬(D:Int)<=(X:Int)/10*10:=by omega
  by_cases g3:D<X
  ·have r1:T=((W+1+W/4%2)/4,-p):=by rw[hT.out,if_neg g1,if_pos g3]
   replace r1:=hid r1;have c3:=u3.out w' b S4;go_wp2_with fail;refine c3.out.mono ?_;rintro en w5 ⟨rfl,S5⟩;replace S5:=hid S5;clear c3 S4;go_wp2_with fail;refine(J46 W (by omega) _).mono ?_
   rintro en w' ⟨rfl,rfl⟩;go_wp2_with fail;go_ret2;rw[r1.out];exact⟨rfl,S5.out.less (List.sublist_cons_self _ _)⟩
  ·have r1:T=(D,-p):=by rw[hT.out,if_neg g1,if_neg g3]
   replace r1:=hid r1;go_wp2_with fail;go_ret2;rw[r1.out];exact⟨rfl,S4.out.less (List.sublist_cons_self _ _)⟩
theorem Jx8 (hS:J3 w0 [] w r) (hF:J49 w0) (m:Nat) (e:Int) (hm:2 ^63<=m) (hne:¬m=9223372036854775808) (hm2:m+2 ^(-1074 - e).toNat<=2 ^64) (h0: -1137<=e) (h1:e< -1085):
 Calls Tryz.prog 274 #[.int .u64 m,.int .i64 e] w (J3m w0 r (.tuple #[.int .u64 (shC m e).1,.int .i64 (shC m e).2])):=by
 obtain⟨Y,hY⟩:∃Y:Nat,(Y:Int)+1= -1074 - e:=⟨(-1074 - e - 1).toNat,by omega⟩
 obtain⟨P,hP⟩:∃P,P=2 ^Y:=⟨_,rfl⟩
 have hY63:Y<=62:=by omega
 have hP1:P<=2 ^62:=by rw[hP];exact Nat.pow_le_pow_right (by decide) hY63
 have hP0:2048<=P:=by
  rw[hP];have:=Nat.pow_le_pow_right (show 0<2 by decide) (show 11<=Y by omega)
  simpa using this
 have hzn:(-1074 - e).toNat=Y+1:=by omega
 have hzn1:(-1074 - e).toNat - 1=Y:=by omega
 have hP2:2 ^(Y+1)=2*P:=by rw[Nat.pow_succ,hP,Nat.mul_comm]
 rw[hzn,hP2] at hm2;have hk:=scC e h0 h1;have hfn:shC m e=J37 m e 324 (m - P) (m+P) (m/(2*P)%2):=by unfold shC;rw[hzn1,hzn,hP2,<-hP]
 have z1:11+(-1085 - e)=(Y:Int)+1:=by omega
 have z2:e+((Y:Int)+1)= -1074:=by omega
 have z3:(2:Int) ^Y=(P:Int):=by rw[hP];simp
 have z4:(2:Int) ^(Y+1)=((2*P:Nat):Int):=by rw[<-hP2];simp
 have hdv:m/(2*P)<9007199254740992:=by
  rw[Nat.div_lt_iff_lt_mul (by omega)]
  have:9007199254740992*4096<=9007199254740992*(2*P):=Nat.mul_le_mul_left _ (by omega)
  omega
 have hdI:(m:Int)/(2*P:Int)=((m/(2*P):Nat):Int):=by simp
 have hdI1:0<=(m:Int)/(2*P:Int):=by rw[hdI];exact Int.natCast_nonneg _
 have hdI2:(m:Int)/(2*P:Int)<=9007199254740992:=by rw[hdI];exact Int.ofNat_le.2 (Nat.le_of_lt hdv)
 have t1:¬ -1085<e:=by omega
 have t2:¬ -1085<=e:=by omega
 have t3:e<= -1086:=by omega
 replace hY:=hid hY;replace hP:=hid hP;replace hzn:=hid hzn;replace hzn1:=hid hzn1;replace hP2:=hid hP2;replace hdI:=hid hdI;obtain⟨p,hp⟩:∃p,p=(324:Int):=⟨_,rfl⟩
 obtain⟨odd,hodd⟩:∃odd,odd=m/(2*P)%2:=⟨_,rfl⟩
 obtain⟨T,hT⟩:∃T,T=shC m e:=⟨_,rfl⟩
 rw[<-hT];rw[hfn] at hT;clear hfn;rw[<-hp] at hk hT;clear h1;rw[<-hodd] at hT;have ho1:odd<=1:=by omega
 have k0:=hk.p0;have k1:=hk.p1;have k2:=hk.s0;have k3:=hk.s1
 have bo2:bits .and .i64 ((m:Int)/(2*P:Int)) 1=(odd:Int):=by
  have bo:=Jiu (m/(2*P)) (by omega)
  rw[<-hodd] at bo;rw[hdI.out];exact bo
 obtain⟨b1,b1'⟩:=J0g (x:=m - P) (by omega) (by omega) hk
 obtain⟨b2,b2'⟩:=J0g (x:=m+P) (by omega) (by omega) hk
 obtain⟨b3,b3'⟩:=J0g (x:=m) (by omega) (by omega) hk
 have S1:=hid (hS.alloc (.cells #[.int .u64 0,.int .u64 0,.int .i64 0] 366));have hmn:((m - P:Nat):Int)=(m:Int) - P:=by omega
 have hmx:((m+P:Nat):Int)=(m:Int)+P:=by omega
 have u1:=fun (w:World) (b:Nat) (hs:Hid (J3 w0 [] w ((b,J1y (J2r p) (J36 p) (scS e p))::r)))=>hid (J3l hs.out hk (m - P) (by omega))
 have u2:=fun (w:World) (b:Nat) (hs:Hid (J3 w0 [] w ((b,J1y (J2r p) (J36 p) (scS e p))::r)))=>hid (J3l hs.out hk (m+P) (by omega))
 have u3:=fun (w:World) (b:Nat) (hs:Hid (J3 w0 [] w ((b,J1y (J2r p) (J36 p) (scS e p))::r)))=>hid (J3l hs.out hk m (by omega))
 rw[hmn] at u1;rw[hmx] at u2;unfold J37 at hT;generalize uq (m - P) e p=U at *;generalize uq (m+P) e p=V at *;generalize uq m e p=W at *;obtain⟨D,hD⟩:∃D,D=(U+odd+3)/4:=⟨_,rfl⟩
 obtain⟨X,hX⟩:∃X,X=(V - odd)/4:=⟨_,rfl⟩
 have hD2:D<=9223372036854775807:=by omega
 have hX2:X<=9223372036854775807:=by omega
 have hce:=fun w=>J7p (U+odd) (by omega) w
 have hfl:=fun w=>J6c (V - odd) (by omega) w
 rw[<-hD] at hT hce;rw[<-hX] at hT hfl;replace hD:=hid hD;replace hX:=hid hX;replace hce:=hid hce;replace hfl:=hid hfl;replace u1:=hid u1;replace u2:=hid u2;replace u3:=hid u3;replace hp:=hid hp;replace hk:=hid hk;replace hodd:=hid hodd;replace hT:=hid hT;clear hS hmn hmx;go_enter Tryz.func274,Tryz.ntmps274;go_wp2_with fail;refine(J8x (-1074) (by omega) (by omega) _).mono ?_
 rintro en w' ⟨rfl,rfl⟩;go_wp2_with fail;rw[<-hp.out];refine(J4w p (by omega) (by omega) _).mono ?_
 rintro en w' ⟨rfl,rfl⟩;have hpi:(((p+348).toNat:Nat):Int) - 348=p:=by omega
 have hpre:=J92 S1.out hF e (by omega) (by omega) (p+348).toNat (by omega) (p*108853/32768) (by omega) (by omega)
 rw[hpi] at hpre;replace hpre:=hid hpre;clear hpi S1;go_wp2_with fail;refine hpre.out.mono ?_;rintro en w2 ⟨rfl,S2⟩;generalize w'.heap.size=b at S2⊢;replace S2:Hid (J3 w0 [] w2 ((b,J1y (J2r p) (J36 p) (scS e p))::r)):=hid S2;clear hpre;have c1:=u1.out w2 b S2;go_wp2_with fail;refine c1.out.mono ?_;rintro en w3 ⟨rfl,S3⟩;replace S3:=hid S3;clear c1 S2;go_wp2_with fail;refine(J86 U odd ho1 (by omega) _).mono ?_
 rintro en w' ⟨rfl,rfl⟩;go_wp2_with fail;refine(hce.out _).mono ?_
 rintro en w' ⟨rfl,rfl⟩;have c2:=u2.out w' b S3;go_wp2_with fail;refine c2.out.mono ?_;rintro en w4 ⟨rfl,S4⟩;replace S4:=hid S4;clear c2 S3;go_wp2_with fail;refine(J5b V odd ho1 (by omega) (by omega) _).mono ?_
 rintro en w' ⟨rfl,rfl⟩;go_wp2_with fail;refine(hfl.out _).mono ?_
 rintro en w' ⟨rfl,rfl⟩;by_cases g1:D<=X/10*10
 ·have g2:(D:Int)<=(X:Int)/10*10:=by omega
  have r1:T=(X/10,-(p - 1)):=by rw[hT.out,if_pos g1]
  replace r1:=hid r1;go_wp2_with fail;go_ret2;rw[r1.out];exact⟨rfl,S4.out.less (List.sublist_cons_self _ _)⟩
 ·have g2:¬(D:Int)<=(X:Int)/10*10:=by omega
  by_cases g3:D<X
  ·have r1:T=((W+1+W/4%2)/4,-p):=by rw[hT.out,if_neg g1,if_pos g3]
   replace r1:=hid r1;have c3:=u3.out w' b S4;go_wp2_with fail;refine c3.out.mono ?_;rintro en w5 ⟨rfl,S5⟩;replace S5:=hid S5;clear c3 S4;go_wp2_with fail;refine(J46 W (by omega) _).mono ?_
   rintro en w' ⟨rfl,rfl⟩;go_wp2_with fail;go_ret2;rw[r1.out];exact⟨rfl,S5.out.less (List.sublist_cons_self _ _)⟩
  ·have r1:T=(D,-p):=by rw[hT.out,if_neg g1,if_neg g3]
   replace r1:=hid r1;go_wp2_with fail;go_ret2;rw[r1.out];exact⟨rfl,S4.out.less (List.sublist_cons_self _ _)⟩
theorem Juz (hS:J3 w0 [] w r) (hF:J49 w0) (m:Nat) (e:Int) (hm:2 ^63<=m) (hm0:m=9223372036854775808) (hm2:m+2 ^(-1074 - e).toNat<=2 ^64) (h0: -1137<=e) (h1:e< -1085):
 Calls Tryz.prog 274 #[.int .u64 m,.int .i64 e] w (J3m w0 r (.tuple #[.int .u64 (shC m e).1,.int .i64 (shC m e).2])):=by
 obtain⟨Y,hY⟩:∃Y:Nat,(Y:Int)+1= -1074 - e:=⟨(-1074 - e - 1).toNat,by omega⟩
 obtain⟨P,hP⟩:∃P,P=2 ^Y:=⟨_,rfl⟩
 have hY63:Y<=62:=by omega
 have hP1:P<=2 ^62:=by rw[hP];exact Nat.pow_le_pow_right (by decide) hY63
 have hP0:2048<=P:=by
  rw[hP];have:=Nat.pow_le_pow_right (show 0<2 by decide) (show 11<=Y by omega)
  simpa using this
 have hzn:(-1074 - e).toNat=Y+1:=by omega
 have hzn1:(-1074 - e).toNat - 1=Y:=by omega
 have hP2:2 ^(Y+1)=2*P:=by rw[Nat.pow_succ,hP,Nat.mul_comm]
 rw[hzn,hP2] at hm2;have hk:=scC e h0 h1;have hfn:shC m e=J37 m e 324 (m - P) (m+P) (m/(2*P)%2):=by unfold shC;rw[hzn1,hzn,hP2,<-hP]
 have z1:11+(-1085 - e)=(Y:Int)+1:=by omega
 have z2:e+((Y:Int)+1)= -1074:=by omega
 have z3:(2:Int) ^Y=(P:Int):=by rw[hP];simp
 have z4:(2:Int) ^(Y+1)=((2*P:Nat):Int):=by rw[<-hP2];simp
 have hdv:m/(2*P)<9007199254740992:=by
  rw[Nat.div_lt_iff_lt_mul (by omega)]
  have:9007199254740992*4096<=9007199254740992*(2*P):=Nat.mul_le_mul_left _ (by omega)
  omega
 have hdI:(m:Int)/(2*P:Int)=((m/(2*P):Nat):Int):=by simp
 have hdI1:0<=(m:Int)/(2*P:Int):=by rw[hdI];exact Int.natCast_nonneg _
 have hdI2:(m:Int)/(2*P:Int)<=9007199254740992:=by rw[hdI];exact Int.ofNat_le.2 (Nat.le_of_lt hdv)
 have q1:((m:Int)==9223372036854775808)=true:=by rw[hm0];rfl
 have t1:¬ -1085<e:=by omega
 have hm9:m<=9223372036854775808:=by omega
 replace hm0:=hid hm0;have t2:¬ -1085<=e:=by omega
 have t3:e<= -1086:=by omega
 replace hY:=hid hY;replace hP:=hid hP;replace hzn:=hid hzn;replace hzn1:=hid hzn1;replace hP2:=hid hP2;replace hdI:=hid hdI;obtain⟨p,hp⟩:∃p,p=(324:Int):=⟨_,rfl⟩
 obtain⟨odd,hodd⟩:∃odd,odd=m/(2*P)%2:=⟨_,rfl⟩
 obtain⟨T,hT⟩:∃T,T=shC m e:=⟨_,rfl⟩
 rw[<-hT];rw[hfn] at hT;clear hfn;rw[<-hp] at hk hT;clear h1;rw[<-hodd] at hT;have ho1:odd<=1:=by omega
 have k0:=hk.p0;have k1:=hk.p1;have k2:=hk.s0;have k3:=hk.s1
 have bo2:bits .and .i64 ((m:Int)/(2*P:Int)) 1=(odd:Int):=by
  have bo:=Jiu (m/(2*P)) (by omega)
  rw[<-hodd] at bo;rw[hdI.out];exact bo
 obtain⟨b1,b1'⟩:=J0g (x:=m - P) (by omega) (by omega) hk
 obtain⟨b2,b2'⟩:=J0g (x:=m+P) (by omega) (by omega) hk
 obtain⟨b3,b3'⟩:=J0g (x:=m) (by omega) (by omega) hk
 have S1:=hid (hS.alloc (.cells #[.int .u64 0,.int .u64 0,.int .i64 0] 366));have hmn:((m - P:Nat):Int)=(m:Int) - P:=by omega
 have hmx:((m+P:Nat):Int)=(m:Int)+P:=by omega
 have u1:=fun (w:World) (b:Nat) (hs:Hid (J3 w0 [] w ((b,J1y (J2r p) (J36 p) (scS e p))::r)))=>hid (J3l hs.out hk (m - P) (by omega))
 have u2:=fun (w:World) (b:Nat) (hs:Hid (J3 w0 [] w ((b,J1y (J2r p) (J36 p) (scS e p))::r)))=>hid (J3l hs.out hk (m+P) (by omega))
 have u3:=fun (w:World) (b:Nat) (hs:Hid (J3 w0 [] w ((b,J1y (J2r p) (J36 p) (scS e p))::r)))=>hid (J3l hs.out hk m (by omega))
 rw[hmn] at u1;rw[hmx] at u2;unfold J37 at hT;generalize uq (m - P) e p=U at *;generalize uq (m+P) e p=V at *;generalize uq m e p=W at *;obtain⟨D,hD⟩:∃D,D=(U+odd+3)/4:=⟨_,rfl⟩
 obtain⟨X,hX⟩:∃X,X=(V - odd)/4:=⟨_,rfl⟩
 have hD2:D<=9223372036854775807:=by omega
 have hX2:X<=9223372036854775807:=by omega
 have hce:=fun w=>J7p (U+odd) (by omega) w
 have hfl:=fun w=>J6c (V - odd) (by omega) w
 rw[<-hD] at hT hce;rw[<-hX] at hT hfl;replace hD:=hid hD;replace hX:=hid hX;replace hce:=hid hce;replace hfl:=hid hfl;replace u1:=hid u1;replace u2:=hid u2;replace u3:=hid u3;replace hp:=hid hp;replace hk:=hid hk;replace hodd:=hid hodd;replace hT:=hid hT;clear hS hmn hmx;go_enter Tryz.func274,Tryz.ntmps274;go_wp2_with fail;refine(J8x (-1074) (by omega) (by omega) _).mono ?_
 rintro en w' ⟨rfl,rfl⟩;go_wp2_with fail;rw[<-hp.out];refine(J4w p (by omega) (by omega) _).mono ?_
 rintro en w' ⟨rfl,rfl⟩;have hpi:(((p+348).toNat:Nat):Int) - 348=p:=by omega
 have hpre:=J92 S1.out hF e (by omega) (by omega) (p+348).toNat (by omega) (p*108853/32768) (by omega) (by omega)
 rw[hpi] at hpre;replace hpre:=hid hpre;clear hpi S1;go_wp2_with fail;refine hpre.out.mono ?_;rintro en w2 ⟨rfl,S2⟩;generalize w'.heap.size=b at S2⊢;replace S2:Hid (J3 w0 [] w2 ((b,J1y (J2r p) (J36 p) (scS e p))::r)):=hid S2;clear hpre;have c1:=u1.out w2 b S2;go_wp2_with fail;refine c1.out.mono ?_;rintro en w3 ⟨rfl,S3⟩;replace S3:=hid S3;clear c1 S2;go_wp2_with fail;refine(J86 U odd ho1 (by omega) _).mono ?_
 rintro en w' ⟨rfl,rfl⟩;go_wp2_with fail;refine(hce.out _).mono ?_
 rintro en w' ⟨rfl,rfl⟩;have c2:=u2.out w' b S3;go_wp2_with fail;refine c2.out.mono ?_;rintro en w4 ⟨rfl,S4⟩;replace S4:=hid S4;clear c2 S3;go_wp2_with fail;refine(J5b V odd ho1 (by omega) (by omega) _).mono ?_
 rintro en w' ⟨rfl,rfl⟩;go_wp2_with fail;refine(hfl.out _).mono ?_
 rintro en w' ⟨rfl,rfl⟩;by_cases g1:D<=X/10*10
 ·have g2:(D:Int)<=(X:Int)/10*10:=by omega
  have r1:T=(X/10,-(p - 1)):=by rw[hT.out,if_pos g1]
  replace r1:=hid r1;go_wp2_with fail;go_ret2;rw[r1.out];exact⟨rfl,S4.out.less (List.sublist_cons_self _ _)⟩
 ·have g2:¬(D:Int)<=(X:Int)/10*10:=by omega
  by_cases g3:D<X
  ·have r1:T=((W+1+W/4%2)/4,-p):=by rw[hT.out,if_neg g1,if_pos g3]
   replace r1:=hid r1;have c3:=u3.out w' b S4;go_wp2_with fail;refine c3.out.mono ?_;rintro en w5 ⟨rfl,S5⟩;replace S5:=hid S5;clear c3 S4;go_wp2_with fail;refine(J46 W (by omega) _).mono ?_
   rintro en w' ⟨rfl,rfl⟩;go_wp2_with fail;go_ret2;rw[r1.out];exact⟨rfl,S5.out.less (List.sublist_cons_self _ _)⟩
  ·have r1:T=(D,-p):=by rw[hT.out,if_neg g1,if_neg g3]
   replace r1:=hid r1;go_wp2_with fail;go_ret2;rw[r1.out];exact⟨rfl,S4.out.less (List.sublist_cons_self _ _)⟩
end Go.Proofs.YtncbcaabanoeoaaGreatDoor
namespace Go.Proofs.YtncbcaabanoeoaaGreatDoor
open Go Go.RowKit Go.Sort
def J4f (l:List UInt8):Nat->Nat
 |0=>0
 |n+1=>if l.getD n 48=48 then J4f l n else n+1
theorem Jf3 (l:List UInt8):∀n,J4f l n<=n
 |0=>Nat.le_refl _
 |n+1=>by
  simp only[J4f];split
  ·exact Nat.le_succ_of_le (Jf3 l n)
  ·exact Nat.le_refl _
theorem Jbt {l:List UInt8} (h:l.getD 0 48≠48):∀n,1<=n->1<=J4f l n
 |0,h1=>absurd h1 (by decide)
 |1,_=>by simp only[J4f];rw[if_neg h];decide
 |n+2,_=>by
  rw[J4f];split
  ·exact Jbt h (n+1) (by omega)
  ·omega
theorem Jj6 {u:Nat} (h:1<=u):(Lib.decDigits u).getD 0 48≠48:=by
 induction u using Nat.strongRecOn with
 |ind u ih=>
  rw[Lib.decDigits];split
  ·rename_i h10
   simp only[List.getD_cons_zero,ne_eq];intro hc
   have:=congrArg UInt8.toNat hc
   simp[Lib.dg] at this;omega
  ·rename_i h10
   have:=ih (u/10) (by omega) (by omega)
   cases hd:Lib.decDigits (u/10) with
   |nil=>rw[hd] at this;simp at this
   |cons a l=>rw[hd] at this;simpa using this
abbrev Jsr:UInt8->Value:=fun b=>.int .u8 (b.toNat:Int)
theorem J3.putRowB {w0 w:World} {r:Hp} {b:Nat} {cs:Array Value} {T:TypeId} (hS:J3 w0 [] w ((b,.cells cs T (0,0))::r)) (dk:Array UInt8) (n:Nat):
 J3 w0 [] ((putRow Jsr w b 0 dk).drewN n) ((b,.cells (Go.Sort.putCells Jsr 0 dk cs) T (0,0))::r):=by
 have hb:=hS.own.head;refine J3.drewN ?_ n;refine J3.put hS ?_ ?_ ?_ rfl rfl
 ·show(w.heap.modify _ _).size=_
  simp
 ·show(w.heap.modify b (onCells (Go.Sort.putCells Jsr 0 dk)))[b]? =_
  rw[Array.getElem?_modify,if_pos rfl,hb];rfl
 ·intro k hk
  show(w.heap.modify b (onCells (Go.Sort.putCells Jsr 0 dk)))[k]? =_
  rw[Array.getElem?_modify,if_neg (Ne.symm hk)]
theorem Jt0 {nd u v':Nat} {dk:Array UInt8} (h:Lib.FmtInv nd u 0 v' dk) (hn:nd=Lib.nDigits u):dk.toList=Lib.decDigits u:=by
 subst hn;rw[Lib.decDigits_eq];apply List.ext_getElem?
 intro t
 by_cases ht:t<Lib.nDigits u
 ·have hd:=h.done t (Nat.zero_le _) ht
  have hs:t<dk.size:=by rw[h.size];exact ht
  rw[Array.getElem?_toList,Array.getElem?_eq_getElem hs,List.getElem?_map,List.getElem?_range ht,Option.map_some];rw[getElem!_pos dk t hs] at hd;rw[hd]
 ·rw[Array.getElem?_toList,Array.getElem?_eq_none (by rw[h.size];omega),List.getElem?_eq_none (by simp;omega)]
def Jo4 (cs:Array Value) (l:List UInt8):Prop:=∀(j:Nat) (x:UInt8),l[j]? =some x->cs[j]? =some (bv x)
def Jy5 (w0:World) (r:Hp) (b:Nat) (T:TypeId) (l:List UInt8) (a c:Int) (e:Ending) (w':World):Prop:=
 e= .returned (.tuple #[.int .i64 a,.int .i64 c])/\∃cs,Jo4 cs l/\J3 w0 [] w' ((b,.cells cs T (0,0))::r)
theorem Jev {w0 w:World} {r:Hp} {b:Nat} {T:TypeId} (hS:J3 w0 [] w ((b,.cells (Array.replicate 32 (.int .u8 0)) T (0,0))::r)) (d:Nat) (h1:1<=d) (hd:d<18446744073709551616) (p:Int) (hp0: -1000<=p) (hp1:p<=1000) (nd:Nat) (hn:nd=Lib.nDigits d):
 Calls Tryz.prog 269 #[.slice (some ⟨b,0,none⟩) 32 32,.int .u64 d,.int .i64 p,.int .i64 nd] w (Jy5 w0 r b T (Lib.decDigits d) (nd+p) (J4f (Lib.decDigits d) nd)):=by
 have hn20:nd<=20:=by rw[hn];exact Lib.nDigits_le20 d hd
 have hn0:1<=nd:=by rw[hn];exact Lib.nDigits_pos d
 have hlen:(Lib.decDigits d).length=nd:=by rw[Lib.decDigits_length,hn]
 have hsz:(Array.replicate nd (0:UInt8)).size=nd:=by simp
 have hlt:d<10 ^nd:=by rw[hn];exact Lib.lt_pow_nDigits d
 have hcall:=Tryz.internal_strconv_formatBase10 b 0 32 d (Array.replicate nd (0:UInt8)) w (fun j hj=>by
  rw[hsz] at hj;refine⟨?_,by rw[Nat.zero_add];exact Jg hS.own.head j⟩
  rw[Nat.zero_add,J2 hS.own.head j,Array.getElem?_replicate,if_pos (by omega)]
  congr 1
  rw[getElem!_pos _ j (by rw[hsz];exact hj)]
  simp) (by rw[hsz];exact hlt) hd (by rw[hsz];omega)
 rw[hsz] at hcall;have hS':=hid hS;replace hcall:=hid hcall;replace hn:=hid hn;replace hlt:=hid hlt;clear hS;go_enter Tryz.func269,Tryz.ntmps269;go_wp2_with fail;refine hcall.out.mono ?_;rintro e w1 ⟨rfl,n,v',dk,rfl,hinv⟩;have hdk:=Jt0 hinv hn.out;have hdks:dk.size=nd:=hinv.size;have S1:=hid (hS'.out.putRowB dk n);generalize hw:(putRow _ w b 0 dk).drewN n=w1 at S1⊢;clear hw hcall hinv
 have hdig:Jo4 (Go.Sort.putCells Jsr 0 dk (Array.replicate 32 (.int .u8 0))) (Lib.decDigits d):=by
  intro j x hj
  have hjn:j<nd:=by
   rw[<-hlen];exact(List.getElem?_eq_some_iff.1 hj).1
  have hx:dk[j]! =x:=by
   rw[<-hdk,Array.getElem?_toList,Array.getElem?_eq_getElem (by omega)] at hj
   rw[getElem!_pos _ _ (by omega)]
   exact Option.some.inj hj
  simp only[Go.Sort.putCells,Array.getElem?_mapIdx,Array.getElem?_replicate,if_pos (show j<32 by omega),Option.map_some]
  rw[if_pos ⟨Nat.zero_le _,by omega⟩,Nat.sub_zero,hx]
 have hcell:∀(j:Nat) (x:UInt8),(Lib.decDigits d)[j]? =some x->w1.cell? ⟨b,j,none⟩=some (bv x):=fun j x hj=>by
  rw[J2 S1.out.own.head j];exact hdig j x hj
 replace hcell:=hid hcell;replace hdig:=hid hdig;generalize hl:Lib.decDigits d=l at *;replace hl:=hid hl;replace hdk:=hid hdk;replace hlen:=hid hlen;clear hsz hS';have hz2:(nd:Int)<=32:=by omega
 go_wp2_with fail;go_loop [3] (fun s3=>∃k:Nat,s3= .int .i64 k/\k<=nd/\Hid (J4f l k=J4f l nd)) (fun s3=>(intOf s3).toNat)
 case atStart=>exact⟨nd,rfl,Nat.le_refl _,hid rfl⟩
 case round=>
  obtain⟨k,rfl,hk,hr⟩:=hrel
  cases k with
  |zero=>
   go_wp2_with fail;go_ret2;rw[<-hr.out];exact⟨rfl,_,hdig.out,S1.out⟩
  |succ j=>
   obtain⟨x,hx⟩:∃x,l[j]? =some x:=⟨l[j]'(by rw[hlen.out];omega),List.getElem?_eq_getElem _⟩
   have cj:=hcell.out j x hx;have hgd:l.getD j 48=x:=by rw[List.getD_eq_getElem?_getD,hx];rfl
   have hrr:=hr.out;rw[J4f,hgd] at hrr;clear hr;replace hgd:=hid hgd;replace hx:=hid hx;have hj1:(0:Int)<(j:Int)+1:=by omega
   have hj2:j<32:=by omega
   by_cases h48:x=48
   ·subst h48
    rw[if_pos rfl] at hrr;replace hrr:=hid hrr;have cj2:w1.cell? ⟨b,j,none⟩=some (.int .u8 48):=cj;clear cj;go_wp2_with fail;go_round
    case rel=>exact⟨j,by go_num,by omega,hrr⟩
    case measure=>simp[intOf]
   ·have ht:((x.toNat:Int)==48)=false:=by
     simp only[beq_eq_false_iff_ne,ne_eq];intro hc
     apply h48
     apply UInt8.toNat_inj.1
     have:x.toNat=48:=by omega
     rw[this];rfl
    rw[if_neg h48] at hrr;replace hrr:=hid hrr;replace h48:=hid h48;go_wp2_with fail;go_ret2;rw[<-hrr.out];exact⟨rfl,_,hdig.out,S1.out⟩
end Go.Proofs.YtncbcaabanoeoaaGreatDoor
