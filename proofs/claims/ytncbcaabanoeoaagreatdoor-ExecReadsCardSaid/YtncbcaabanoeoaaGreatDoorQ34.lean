/-
strconv: no text that begins with a digit is special.
-/
import Derived.Deep.CutBlock
import Derived.Deep.DeepCutAuto
import Derived.WalkMore
import Derived.Test.YtncbcaabanoeoaaGreatDoorQ05
import Derived.Test.YtncbcaabanoeoaaGreatDoorQ28
import Derived.Test.YtncbcaabanoeoaaGreatDoorQ29
import Derived.Test.YtncbcaabanoeoaaGreatDoorQ30
import Derived.Test.YtncbcaabanoeoaaGreatDoorQ33
set_option linter.unusedVariables false
set_option linter.unusedSimpArgs false
set_option maxRecDepth 100000
set_option maxHeartbeats 8000000
namespace Go.Proofs.YtncbcaabanoeoaaGreatDoor
open Go Go.RowKit
variable {w0 w:World}{r:Hp}
theorem Jn3 (s:ByteArray) (h0:0<s.size) (hd1:48<=s[0].toNat) (hd2:s[0].toNat<=57) (hs:s.size<=1099511627776) (w:World):
 Calls Tryz.prog 278 #[.string s,.string ⟨#[105,110,102,105,110,105,116,121]⟩] w (fun e w'=>e= .returned (.int .i64 0)/\w'=w):=by
 have h0':(0:Int)<s.size:=by omega
 have hne:¬s=ByteArray.empty:=by intro h;rw[h] at h0;exact absurd h0 (by decide)
 generalize hx:s[0]=x at hd1 hd2;have hx1:(x.toNat:Int)<=57:=by omega
 have hx2:¬(65:Int)<=x.toNat:=by omega
 have hx3:¬65<=x.toNat:=by omega
 have hx4:((x.toNat:Int) !=105)=true:=by simp;omega
 have hx5:(x.toNat !=105)=true:=by simp;omega
 have hx6:((x.toNat:Int) !=((((⟨#[105,110,102,105,110,105,116,121]⟩:ByteArray)[0]'(by decide)).toNat:Nat):Int))=true:=hx4
 have hmin:∃k:Int,min 8 (s.size:Int)=k/\0<k:=⟨_,rfl,by omega⟩
 obtain⟨k,hk,hk0⟩:=hmin
 go_enter Tryz.func278,Tryz.ntmps278;go_wp2_with (simp only[hk]);go_loop [6] (fun s6=>s6= .int .i64 0) (fun _=>0)
 case atStart=>rfl
 case round=>
  obtain rfl:=hrel;go_wp2_with fail;all_goals go_ret
  all_goals exact⟨rfl,rfl⟩
theorem Jl8 (s:ByteArray) (h0:0<s.size) (hd1:48<=s[0].toNat) (hd2:s[0].toNat<=57) (hs:s.size<=1099511627776) (w:World):
 Calls Tryz.prog 250 #[.string s] w (fun e w'=>e= .returned (.tuple #[.float .f64 0,.int .i64 0,.bool false])/\w'=w):=by
 have h0':(0:Int)<s.size:=by omega
 have hne:¬s=ByteArray.empty:=by intro h;rw[h] at h0;exact absurd h0 (by decide)
 generalize hx:s[0]=x at hd1 hd2;have f1:((x.toNat:Int)==43)=false:=by simp;omega
 have f2:((x.toNat:Int)==45)=false:=by simp;omega
 have f3:((x.toNat:Int)==105)=false:=by simp;omega
 have f4:((x.toNat:Int)==73)=false:=by simp;omega
 have f5:((x.toNat:Int)==110)=false:=by simp;omega
 have f6:((x.toNat:Int)==78)=false:=by simp;omega
 have g1:(x.toNat==43)=false:=by simp;omega
 have g2:(x.toNat==45)=false:=by simp;omega
 have g3:(x.toNat==105)=false:=by simp;omega
 have g4:(x.toNat==73)=false:=by simp;omega
 have g5:(x.toNat==110)=false:=by simp;omega
 have g6:(x.toNat==78)=false:=by simp;omega
 go_enter Tryz.func250,Tryz.ntmps250;go_wp2_with fail;go_ret3;exact⟨rfl,rfl⟩
theorem Jfe (s:ByteArray) (h0:1<s.size) (hm:s[0].toNat=45) (hd1:48<=s[1].toNat) (hd2:s[1].toNat<=57) (hs:s.size<=1099511627776) (w:World):
 Calls Tryz.prog 250 #[.string s] w (fun e w'=>e= .returned (.tuple #[.float .f64 0,.int .i64 0,.bool false])/\w'=w):=by
 have h0':(1:Int)<s.size:=by omega
 have h0'':0<s.size:=by omega
 have hne:¬s=ByteArray.empty:=by intro h;rw[h] at h0;exact absurd h0 (by decide)
 have hz:0<(s.extract 1 s.size).size:=by rw[ByteArray.size_extract];omega
 have hz2:(s.extract 1 s.size).size<=1099511627776:=by rw[ByteArray.size_extract];omega
 have hg:(s.extract 1 s.size)[0]=s[1]:=by simp[ByteArray.getElem_extract]
 have hP:=Jn3 (s.extract 1 s.size) hz (by rw[hg];exact hd1) (by rw[hg];exact hd2) hz2
 clear hd1 hd2 hg hz hz2;generalize hx:s[0]=x at hm;go_enter Tryz.func250,Tryz.ntmps250;go_wp2_with fail;refine(hP _).mono ?_
 rintro e w1 ⟨rfl,rfl⟩;go_wp2_with fail;go_ret3;exact⟨rfl,rfl⟩
theorem Jif (x:Int):0<=IntKind.u64.wrap x/\IntKind.u64.wrap x<18446744073709551616:=by
 rw[IntKind.wrap_u64];omega
theorem J2d {fn:Func} {a b c d e f g:Tmp} (h:fn.results= #[.tmp a,.tmp b,.tmp c,.tmp d,.tmp e,.tmp f,.tmp g]) (tmps:Array Value) (P:Program) (w:World):
 (results fn tmps).run P w= .ok (.tuple #[tmps.getD a undef,tmps.getD b undef,tmps.getD c undef,tmps.getD d undef,tmps.getD e undef,tmps.getD f undef,tmps.getD g undef]) w:=by
 simp[results,h]
def Jy3 (n:Nat) (w:World) (e:Ending) (w':World):Prop:=
 ∃(m x:Int) (ng tr ok:Bool) (i:Nat),e= .returned (.tuple #[.int .u64 m,.int .i64 x,.bool ng,.bool tr,.bool false,.int .i64 i,.bool ok])/\w'=w/\0<=m/\m<18446744073709551616/\ -200000<=x/\x<=200000/\i<=n
theorem Jfa (s:ByteArray) (hr:J40 s=true) (hs:s.size<=64) (w:World):
 Calls Tryz.prog 251 #[.string s] w (Jy3 s.size w):=by
 obtain⟨h0,hlead⟩:=Jep hr
 replace hr:=hid hr;have hB:=fun k hk=>hid (Jkp hr.out k hk)
 replace hB:=hid hB;have h0':(0:Int)<s.size:=by omega
 have hne:¬s=ByteArray.empty:=by intro h;rw[h] at h0;exact absurd h0 (by decide)
 have hl2:∀n:Nat,n<256->(48<=n/\n<=57\/n=45\/n=46\/n=101\/n=43)->(bits .or .u8 (n:Int) 32==120)=false:=by
  decide+kernel
 have hat:∀(k:Nat) (c:UInt8),s.data.toList[k]? =some c->∃h:k<s.size,s[k]=c:=fun k c h=>by
  obtain⟨h1,h2⟩:=List.getElem?_eq_some_iff.1 h
  exact⟨by simpa using h1,h2⟩
 replace hlead:(∃c,J3x c=true/\∃h:0<s.size,s[0]=c)\/(∃c,J3x c=true/\(∃h:0<s.size,s[0]=45)/\∃h:1<s.size,s[1]=c):=by
  rcases hlead with⟨c,h1,h2⟩|⟨h1,c,h2,h3⟩
  ·exact .inl ⟨c,h2,hat 0 c h1⟩
  ·exact .inr ⟨c,h3,hat 0 45 h1,hat 1 c h2⟩
 replace hl2:=hid hl2;replace hlead:=hid hlead;clear hat;go_enter Tryz.func251,Tryz.ntmps251;go_wp2_with fail;go_step3
 go_upto_block 0 with fail;go_cut [4,7] from 28 to 35 (fun s4 s7 wx=>∃(i0:Nat) (ng:Bool),s4= .bool ng/\s7= .int .i64 i0/\Hid (i0<=1/\∃h:i0<s.size,J3x (s[i0]'h)=true)/\wx=w)
 case first=>
  rcases hlead.out with⟨c,hc,h,hx⟩|⟨c,hc,⟨h,hx⟩,h1,hx1⟩
  ·have hfin:=hid (show 0<=1/\∃h:0<s.size,J3x (s[0]'h)=true from⟨by omega,h,by rw[hx];exact hc⟩)
   have hd:48<=c.toNat/\c.toNat<=57:=by simpa[J3x] using hc
   have f1:((c.toNat:Int)==43)=false:=by simp;omega
   have f2:((c.toNat:Int)==45)=false:=by simp;omega
   have f3:(c.toNat==43)=false:=by simp;omega
   have f4:(c.toNat==45)=false:=by simp;omega
   replace hc:=hid hc;replace hd:=hid hd;go_wp2_with fail;go_meet
   exact⟨0,false,rfl,rfl,hfin,rfl⟩
  ·have hfin:=hid (show 1<=1/\∃h:1<s.size,J3x (s[1]'h)=true from⟨by omega,h1,by rw[hx1];exact hc⟩)
   replace hc:=hid hc;replace hx1:=hid hx1;go_wp2_with fail;go_meet
   exact⟨1,true,rfl,rfl,hfin,rfl⟩
 case rest=>
  obtain⟨i0,ng,rfl,rfl,hlead2,rfl⟩:=hcut
  obtain⟨hi1,hi2,hdg⟩:=hlead2.out
  clear hlead hlead2;generalize hx:s[i0]=x at hdg;have hdd:48<=x.toNat/\x.toNat<=57:=by simpa[J3x] using hdg
  replace hdd:=hid hdd;replace hdg:=hid hdg;go_upto_region 12 with fail;go_cut [54] from 36 to 54 (fun s54 wx=>s54= .bool false/\wx=wc)
  case first=>
   by_cases h2:(i0:Int)+2<s.size
   ·have hb1:=((hB.out (i0+1) (by omega)).out)
    have hlow:=Tryz.internal_strconv_lower (s[i0+1]'(by omega)).toNat
    have hl3:=hl2.out _ (UInt8.toNat_lt _) hb1;clear hb1;generalize hz:bits .or .u8 ((s[i0+1]'(by omega)).toNat:Int) 32=z at hlow hl3
    replace hz:=hid hz;have hi3:(i0:Int)<(s.size:Int):=by omega
    have hi4:(i0:Int)+1<(s.size:Int):=by omega
    by_cases h48:x.toNat=48
    ·have q1:((x.toNat:Int)==48)=true:=by rw[h48];rfl
     have q2:(x.toNat==48)=true:=by rw[h48];rfl
     replace h48:=hid h48;go_wp2_with fail;with_reducible refine(hlow _).mono ?_
     rintro e w' ⟨rfl,rfl⟩;go_wp2_with fail;go_meet
     exact⟨rfl,rfl⟩
    ·have q1:((x.toNat:Int)==48)=false:=by simp;omega
     have q2:(x.toNat==48)=false:=by simp;omega
     replace h48:=hid h48;go_wp2_with fail;go_meet
     exact⟨rfl,rfl⟩
   ·go_wp2_with fail
    go_meet
    exact⟨rfl,rfl⟩
  case rest=>
   obtain⟨rfl,rfl⟩:=hcut
   clear hl2;go_wp2_with fail;go_step3
   go_upto_block 1 with fail;go_cut [2,5,7,9,13,14,15,16,17,18] from 57 to 138 (fun s2 s5 s7 s9 s13 s14 s15 s16 s17 s18 wx=>∃(m:Int) (t d g:Bool) (i nd nm:Nat) (dp:Int),s2= .int .u64 m/\s5= .bool t/\s7= .int .i64 i/\s13= .bool d/\s14= .bool g/\s15= .int .i64 nd/\s16= .int .i64 nm/\s17= .int .i64 dp/\0<=m/\m<18446744073709551616/\i<=s.size/\nd<=64/\nm<=64/\ -64<=dp/\dp<=64/\s9= .bool false/\wx=wc)
   case first=>
    go_wp2_with fail;go_loop [2,5,7,9,13,14,15,16,17] (fun s2 s5 s7 s9 s13 s14 s15 s16 s17=>∃(m:Int) (t d g:Bool) (i nd nm:Nat) (dp:Int),s2= .int .u64 m/\s5= .bool t/\s7= .int .i64 i/\s13= .bool d/\s14= .bool g/\s15= .int .i64 nd/\s16= .int .i64 nm/\s17= .int .i64 dp/\0<=m/\m<18446744073709551616/\i<=s.size/\nd<=i/\nm<=i/\ -(i:Int)<=dp/\dp<=i/\s9= .bool false) (fun s2 s5 s7 s9 s13 s14 s15 s16 s17=>(s.size - intOf s7).toNat)
    case atStart=>exact⟨0,false,false,false,i0,0,0,0,rfl,rfl,rfl,rfl,rfl,rfl,rfl,rfl,by omega,by omega,by omega,by omega,by omega,by omega,by omega,rfl⟩
    case round=>
     obtain⟨m,t,d,g,i,nd,nm,dp,rfl,rfl,rfl,rfl,rfl,rfl,rfl,rfl,hm0,hm1,hi,hnd,hnm,hdp0,hdp1,rfl⟩:=hrel
     by_cases hlt:i<s.size
     ·have hlt2:(i:Int)<(s.size:Int):=by omega
      have hb:=(hB.out i hlt).out;generalize hy:s[i]=y at hb;rcases hb with⟨hb1,hb2⟩|hb|hb|hb|hb
      ·have e1:((y.toNat:Int)==95)=false:=by simp;omega
       have e2:(y.toNat==95)=false:=by simp;omega
       have e3:((y.toNat:Int)==46)=false:=by simp;omega
       have e4:(y.toNat==46)=false:=by simp;omega
       by_cases h48:y.toNat=48
       ·have q1:((y.toNat:Int)==48)=true:=by rw[h48];rfl
        have q2:(y.toNat==48)=true:=by rw[h48];rfl
        have q3:((y.toNat:Int) !=48)=false:=by rw[h48];rfl
        have q4:(y.toNat !=48)=false:=by rw[h48];rfl
        replace h48:=hid h48;by_cases hz:nd=0
        ·subst hz
         go_wp2_with fail;go_round
         case rel=>exact⟨m,t,d,true,i+1,0,nm,dp - 1,rfl,rfl,by go_num,rfl,rfl,rfl,rfl,by go_num,by omega,by omega,by omega,by omega,by omega,by omega,by omega,rfl⟩
         case measure=>simp[intOf];omega
        ·have z1:((nd:Int)==0)=false:=by simp;omega
         have z2:(nd==0)=false:=by simp;omega
         by_cases h19:nm<19
         ·have h19':(nm:Int)<19:=by omega
          go_wp2_with fail;go_round
          case rel=>exact⟨_,t,d,true,i+1,nd+1,nm+1,dp,rfl,rfl,by go_num,rfl,rfl,by go_num,by go_num,rfl,(Jif _).1,(Jif _).2,by omega,by omega,by omega,by omega,by omega,rfl⟩
          case measure=>simp[intOf];omega
         ·have h19':¬(nm:Int)<19:=by omega
          go_wp2_with fail;go_round
          case rel=>exact⟨m,t,d,true,i+1,nd+1,nm,dp,rfl,rfl,by go_num,rfl,rfl,by go_num,rfl,rfl,by omega,by omega,by omega,by omega,by omega,by omega,by omega,rfl⟩
          case measure=>simp[intOf];omega
       ·have q1:((y.toNat:Int)==48)=false:=by simp;omega
        have q2:(y.toNat==48)=false:=by simp;omega
        have q3:((y.toNat:Int) !=48)=true:=by simp;omega
        have q4:(y.toNat !=48)=true:=by simp;omega
        replace h48:=hid h48;by_cases h19:nm<19
        ·have h19':(nm:Int)<19:=by omega
         go_wp2_with fail;go_round
         case rel=>exact⟨_,t,d,true,i+1,nd+1,nm+1,dp,rfl,rfl,by go_num,rfl,rfl,by go_num,by go_num,rfl,(Jif _).1,(Jif _).2,by omega,by omega,by omega,by omega,by omega,rfl⟩
         case measure=>simp[intOf];omega
        ·have h19':¬(nm:Int)<19:=by omega
         go_wp2_with fail;go_round
         case rel=>exact⟨m,true,d,true,i+1,nd+1,nm,dp,rfl,rfl,by go_num,rfl,rfl,by go_num,rfl,rfl,by omega,by omega,by omega,by omega,by omega,by omega,by omega,rfl⟩
         case measure=>simp[intOf];omega
      ·have e1:((y.toNat:Int)==95)=false:=by simp;omega
       have e2:(y.toNat==95)=false:=by simp;omega
       have e3:((y.toNat:Int)==46)=false:=by simp;omega
       have e4:(y.toNat==46)=false:=by simp;omega
       have e5:¬48<=y.toNat:=by omega
       replace hb:=hid hb;go_wp2_with fail;go_meet
       exact⟨m,t,d,g,i,nd,nm,dp,rfl,rfl,rfl,rfl,rfl,rfl,rfl,rfl,by omega,by omega,by omega,by omega,by omega,by omega,by omega,rfl,rfl⟩
      ·have e1:((y.toNat:Int)==95)=false:=by simp;omega
       have e2:(y.toNat==95)=false:=by simp;omega
       have e3:((y.toNat:Int)==46)=true:=by simp;omega
       have e4:(y.toNat==46)=true:=by simp;omega
       replace hb:=hid hb;cases d with
       |true=>
        go_wp2_with fail;go_meet
        exact⟨m,t,true,g,i,nd,nm,dp,rfl,rfl,rfl,rfl,rfl,rfl,rfl,rfl,by omega,by omega,by omega,by omega,by omega,by omega,by omega,rfl,rfl⟩
       |false=>
        go_wp2_with fail;go_round
        case rel=>exact⟨m,t,true,g,i+1,nd,nm,nd,rfl,rfl,by go_num,rfl,rfl,rfl,rfl,rfl,by omega,by omega,by omega,by omega,by omega,by omega,by omega,rfl⟩
        case measure=>simp[intOf];omega
      ·have e1:((y.toNat:Int)==95)=false:=by simp;omega
       have e2:(y.toNat==95)=false:=by simp;omega
       have e3:((y.toNat:Int)==46)=false:=by simp;omega
       have e4:(y.toNat==46)=false:=by simp;omega
       have e5:¬(48<=y.toNat/\y.toNat<=57):=by omega
       have e6:48<=y.toNat:=by omega
       have e7:¬y.toNat<=57:=by omega
       replace e5:=hid e5;replace hb:=hid hb;go_wp2_with fail;go_meet
       exact⟨m,t,d,g,i,nd,nm,dp,rfl,rfl,rfl,rfl,rfl,rfl,rfl,rfl,by omega,by omega,by omega,by omega,by omega,by omega,by omega,rfl,rfl⟩
      ·have e1:((y.toNat:Int)==95)=false:=by simp;omega
       have e2:(y.toNat==95)=false:=by simp;omega
       have e3:((y.toNat:Int)==46)=false:=by simp;omega
       have e4:(y.toNat==46)=false:=by simp;omega
       have e5:¬(48<=y.toNat/\y.toNat<=57):=by omega
       have e6:¬48<=y.toNat:=by omega
       replace e5:=hid e5;replace hb:=hid hb;go_wp2_with fail;go_meet
       exact⟨m,t,d,g,i,nd,nm,dp,rfl,rfl,rfl,rfl,rfl,rfl,rfl,rfl,by omega,by omega,by omega,by omega,by omega,by omega,by omega,rfl,rfl⟩
     ·go_wp2_with fail
      go_meet
      exact⟨m,t,d,g,i,nd,nm,dp,rfl,rfl,rfl,rfl,rfl,rfl,rfl,rfl,by omega,by omega,by omega,by omega,by omega,by omega,by omega,rfl,rfl⟩
   case rest=>
    obtain⟨m,t,d,g,i,nd,nm,dp,rfl,rfl,rfl,rfl,rfl,rfl,rfl,rfl,hm0,hm1,hi,hnd,hnm,hdp0,hdp1,rfl,rfl⟩:=hcut
    clear hne hx;cases g with
    |false=>
     go_wp2_with fail;rw[Exit.noGoto_ret];refine bodyPost_ret (J2d rfl _ _ _) rfl ?_;exact⟨m,0,_,t,false,i,rfl,rfl,hm0,hm1,by omega,by omega,hi⟩
    |true=>
     go_upto_if 142 with fail;go_cut [17] from 143 to 143 (fun s17 wx=>∃dp':Int,s17= .int .i64 dp'/\ -64<=dp'/\dp'<=64/\wx=wc)
     case first=>
      cases d with
      |true=>
       go_wp2_with fail;go_meet
       exact⟨dp,rfl,hdp0,hdp1,rfl⟩
      |false=>
       go_wp2_with fail;go_meet
       exact⟨nd,rfl,by omega,by omega,rfl⟩
     case rest=>
      obtain⟨dp2,rfl,hdp2,hdp3,rfl⟩:=hcut
      go_upto_region 57 with fail;go_cut [161] from 150 to 161 (fun s161 wx=>∃b:Bool,s161= .bool b/\(b=true->i<s.size)/\wx=wc)
      case first=>
       by_cases hlt:i<s.size
       ·have hlt2:(i:Int)<(s.size:Int):=by omega
        have hlow:=Tryz.internal_strconv_lower (s[i]).toNat;generalize bits .or .u8 ((s[i]).toNat:Int) 32=z at hlow;go_wp2_with fail;refine(hlow _).mono ?_
        rintro e w' ⟨rfl,rfl⟩;go_wp2_with fail;go_meet
        exact⟨_,rfl,fun _=>hlt,rfl⟩
       ·go_wp2_with fail
        go_meet
        exact⟨false,rfl,by simp,rfl⟩
      case rest=>
       obtain⟨b,rfl,hb,rfl⟩:=hcut
       go_upto_if 161 with fail;go_cut [7,9,17,19,20] from 162 to 239 (fun s7 s9 s17 s19 s20 wx=>∃(i2:Nat) (dp3:Int),s7= .int .i64 i2/\s9= .bool false/\s17= .int .i64 dp3/\ -150000<=dp3/\dp3<=150000/\i2<=s.size/\wx=wc)
       case first=>
        cases b with
        |false=>
         go_wp2_with fail;go_meet
         exact⟨i,dp2,rfl,rfl,rfl,by omega,by omega,hi,rfl⟩
        |true=>
         have hlt:=hb rfl;clear hb;by_cases h2:i+1<s.size
         ·have h2':(i:Int)+1<(s.size:Int):=by omega
          have h2'':¬((s.size:Int)<=(i:Int)+1):=by omega
          go_upto_block 4 with fail;go_cut [7,19] from 171 to 178 (fun s7 s19 wx=>∃(j:Nat) (sg:Int),s7= .int .i64 j/\s19= .int .i64 sg/\(sg=1\/sg= -1)/\j<=s.size/\wx=wc)
          case first=>
           by_cases y43:((s[i+1].toNat:Int)==43)=true
           ·go_wp2_with fail
            go_meet
            exact⟨i+2,1,by simp[wrap64];omega,rfl,.inl rfl,by omega,rfl⟩
           ·replace y43:((s[i+1].toNat:Int)==43)=false:=Bool.eq_false_iff.2 y43
            by_cases y45:((s[i+1].toNat:Int)==45)=true
            ·go_wp2_with fail
             go_meet
             exact⟨i+2,-1,by simp[wrap64];omega,rfl,.inr rfl,by omega,rfl⟩
            ·replace y45:((s[i+1].toNat:Int)==45)=false:=Bool.eq_false_iff.2 y45
             go_wp2_with fail;go_meet
             exact⟨i+1,1,by go_num,rfl,.inl rfl,by omega,rfl⟩
          case rest=>
           obtain⟨j,sg,rfl,rfl,hsg,hj,rfl⟩:=hcut
           by_cases hj2:j<s.size
           ·have hj3:(j:Int)<(s.size:Int):=by omega
            have hj4:¬(s.size:Int)<=(j:Int):=by omega
            generalize hy:s[j]=y;by_cases hlo:y.toNat<48
            ·have hlo1:(y.toNat:Int)<48:=by omega
             go_wp2_with fail;try rw[Exit.noGoto_ret]
             refine bodyPost_ret (J2d rfl _ _ _) rfl ?_;exact⟨m,0,_,t,false,j,rfl,rfl,hm0,hm1,by omega,by omega,hj⟩
            ·have hlo1:¬(y.toNat:Int)<48:=by omega
             by_cases hhi:57<y.toNat
             ·have hhi1:(57:Int)<(y.toNat:Int):=by omega
              go_wp2_with fail;try rw[Exit.noGoto_ret]
              refine bodyPost_ret (J2d rfl _ _ _) rfl ?_;exact⟨m,0,_,t,false,j,rfl,rfl,hm0,hm1,by omega,by omega,hj⟩
             ·have hhi1:¬(57:Int)<(y.toNat:Int):=by omega
              go_wp2_with fail;go_loop [7,9,20] (fun s7 s9 s20=>∃(q:Nat) (e:Int),s7= .int .i64 q/\s20= .int .i64 e/\s9= .bool false/\q<=s.size/\0<=e/\e<=100008) (fun s7 _ _=>(s.size - intOf s7).toNat)
              case atStart=>exact⟨j,0,rfl,rfl,rfl,hj,by omega,by omega⟩
              case round=>
               clear hlo hlo1 hhi hhi1 hy hj2 hj3 hj4;obtain⟨q,e,rfl,rfl,rfl,hq,he0,he1⟩:=hrel
               by_cases hq2:q<s.size
               ·have hq3:(q:Int)<(s.size:Int):=by omega
                have hb:=(hB.out q hq2).out;generalize hy:s[q]=y at hb;by_cases hdig:48<=y.toNat/\y.toNat<=57
                ·obtain⟨g1,g2⟩:=hdig
                 have g3:(48:Int)<=(y.toNat:Int):=by omega
                 have g4:(y.toNat:Int)<=57:=by omega
                 have g5:((y.toNat:Int)==95)=false:=by simp;omega
                 have g6:(y.toNat==95)=false:=by simp;omega
                 replace hb:=hid hb;by_cases he:e<10000
                 ·go_wp2_with fail
                  go_round
                  case rel=>exact⟨q+1,e*10+((y.toNat:Int) - 48),by go_num,(by first|rfl|(congr 1;omega)),rfl,by omega,by omega,by omega⟩
                  case measure=>simp[intOf];omega
                 ·go_wp2_with fail
                  go_round
                  case rel=>exact⟨q+1,e,by go_num,rfl,rfl,by omega,by omega,by omega⟩
                  case measure=>simp[intOf];omega
                ·have g5:((y.toNat:Int)==95)=false:=by simp;omega
                 have g6:(y.toNat==95)=false:=by simp;omega
                 replace hb:=hid hb;by_cases g1:48<=y.toNat
                 ·have g2:¬y.toNat<=57:=fun h=>hdig ⟨g1,h⟩
                  have g3:(48:Int)<=(y.toNat:Int):=by omega
                  have g4:¬(y.toNat:Int)<=57:=by omega
                  replace hdig:=hid hdig;rcases hsg with rfl|rfl
                  ·go_wp2_with fail
                   go_meet
                   exact⟨q,_,rfl,rfl,rfl,by omega,by omega,hq,rfl⟩
                  ·go_wp2_with fail
                   go_meet
                   exact⟨q,_,rfl,rfl,rfl,by omega,by omega,hq,rfl⟩
                 ·have g3:¬(48:Int)<=(y.toNat:Int):=by omega
                  replace hdig:=hid hdig;rcases hsg with rfl|rfl
                  ·go_wp2_with fail
                   go_meet
                   exact⟨q,_,rfl,rfl,rfl,by omega,by omega,hq,rfl⟩
                  ·go_wp2_with fail
                   go_meet
                   exact⟨q,_,rfl,rfl,rfl,by omega,by omega,hq,rfl⟩
               ·have hq3:¬(q:Int)<(s.size:Int):=by omega
                rcases hsg with rfl|rfl
                ·go_wp2_with fail
                 go_meet
                 exact⟨q,_,rfl,rfl,rfl,by omega,by omega,hq,rfl⟩
                ·go_wp2_with fail
                 go_meet
                 exact⟨q,_,rfl,rfl,rfl,by omega,by omega,hq,rfl⟩
           ·have hj3:(s.size:Int)<=(j:Int):=by omega
            go_wp2_with fail;rw[Exit.noGoto_ret];refine bodyPost_ret (J2d rfl _ _ _) rfl ?_;exact⟨m,0,_,t,false,j,rfl,rfl,hm0,hm1,by omega,by omega,hj⟩
         ·have h2':(s.size:Int)<=(i:Int)+1:=by omega
          go_wp2_with fail;rw[Exit.noGoto_ret];refine bodyPost_ret (J2d rfl _ _ _) rfl ?_;exact⟨m,0,ng,t,false,i+1,by simp,rfl,hm0,hm1,by omega,by omega,by omega⟩
       case rest=>
        obtain⟨i2,dp3,rfl,rfl,rfl,hdp4,hdp5,hi2,rfl⟩:=hcut
        by_cases hm:m=0
        ·subst hm
         go_wp2_with fail;rw[Exit.noGoto_ret];refine bodyPost_ret (J2d rfl _ _ _) rfl ?_;exact⟨0,0,_,t,true,i2,rfl,rfl,by omega,by omega,by omega,by omega,hi2⟩
        ·have m1:(m==0)=false:=by simp;omega
         have m2:(m !=0)=true:=by simp;omega
         replace hm:=hid hm;go_wp2_with fail;rw[Exit.noGoto_ret];refine bodyPost_ret (J2d rfl _ _ _) rfl ?_;exact⟨m,dp3 - nm,_,t,true,i2,rfl,rfl,hm0,hm1,by omega,by omega,hi2⟩
def Jz7 (w0:World) (r:Hp) (e:Ending) (w':World):Prop:=∃(fb:Nat) (n k:Int),fb<18446744073709551616/\(k=0\/k=1\/k=2)/\e= .returned (.tuple #[.float .f64 fb,.int .i64 n,Jst k])/\J3 w0 [] w' r
theorem Jki (hS:J3 w0 [] w r) (hF:J49 w0) (d:Int) (hd:0<=d/\d<18446744073709551616) (p:Int) (hp0: -345<=p) (hp1:p<=310) (sg:Int):
 Calls Tryz.prog 262 #[.int .u64 d,.int .i64 p,.int .u64 sg] w (Jo5 w0 r):=by
 obtain⟨n,rfl⟩:∃n:Nat,d=(n:Int):=⟨d.toNat,by omega⟩
 exact Jkh hS hF n (by omega) p hp0 hp1 sg
theorem Jff (s:ByteArray) (hr:J40 s=true) (hs:s.size<=64) (w:World):
 Calls Tryz.prog 250 #[.string s] w (fun e w'=>e= .returned (.tuple #[.float .f64 0,.int .i64 0,.bool false])/\w'=w):=by
 obtain⟨h0,hlead⟩:=Jep hr
 rcases hlead with⟨c,h1,h2⟩|⟨h1,c,h2,h3⟩
 ·obtain⟨g1,g2⟩:=List.getElem?_eq_some_iff.1 h1
  have hx:s[0]=c:=g2;have hd:48<=c.toNat/\c.toNat<=57:=by simpa[J3x] using h2
  exact Jl8 s h0 (by rw[hx];exact hd.1) (by rw[hx];exact hd.2) (by omega) w
 ·obtain⟨g1,g2⟩:=List.getElem?_eq_some_iff.1 h1
  obtain⟨g3,g4⟩:=List.getElem?_eq_some_iff.1 h2
  have h1s:1<s.size:=by simpa using g3
  have hx:s[0]=45:=g2;have hx1:s[1]=c:=g4;have hd:48<=c.toNat/\c.toNat<=57:=by simpa[J3x] using h3
  exact Jfe s h1s (by rw[hx];rfl) (by rw[hx1];exact hd.1) (by rw[hx1];exact hd.2) (by omega) w
theorem Jsf (hS:J3 w0 [] w r) (hF:J49 w0) (hI:Jim w0) (hT:Joa w0) (hC:Jfi w0) (s:ByteArray) (hr:J40 s=true) (hs:s.size<=64):
 Calls Tryz.prog 239 #[.string s] w (Jz7 w0 r):=by
 have hsp:=fun w=>hid (Jff s hr hs w)
 have hrf:=fun w=>hid (Jfa s hr hs w)
 have opt:=K4 hS hI.opt;have hf:=fun n w=>J9w n w
 have hB:Jzc s:=fun k hk=>Jkp hr k hk
 replace hB:=hid hB;replace hS:=hid hS;replace hF:=hid hF;replace hI:=hid hI;replace hT:=hid hT;replace hC:=hid hC;clear hr;go_enter Tryz.func239,Tryz.ntmps239;go_wp2_with fail;with_reducible refine(hsp _).out.mono ?_
 rintro e w1 ⟨rfl,rfl⟩;go_wp2_with fail;with_reducible refine(hrf _).out.mono ?_
 rintro e w2 ⟨m,x,ng,tr,ok,i,rfl,rfl,hm0,hm1,hx0,hx1,hi⟩;clear hsp hrf;cases ok with
 |false=>
  go_wp2_with fail;go_ret3;exact⟨0,i,2,by decide,.inr (.inr rfl),rfl,hS.out⟩
 |true=>
  have hb:=fun w=>hid (J8n ng w)
  generalize b2 ng=q at hb;go_wp2_with fail;with_reducible refine(hb _).out.mono ?_
  rintro e w3 ⟨rfl,rfl⟩;clear hb;by_cases hz:m=0
  ·subst hz
   go_wp2_with fail;go_ret3;exact⟨_,i,0,toNat_lt (K0 _ (.inr rfl) _ _),.inl rfl,rfl,hS.out⟩
  ·have hz1:(m==0)=false:=by simpa using hz
   replace hz:=hid hz;by_cases h310:310<x
   ·go_wp2_with fail
    go_ret3;exact⟨_,i,1,toNat_lt (K0 _ (.inr rfl) _ _),.inr (.inl rfl),rfl,hS.out⟩
   ·by_cases h345:x< -345
    ·go_wp2_with fail
     go_ret3;exact⟨_,i,0,toNat_lt (K0 _ (.inr rfl) _ _),.inl rfl,rfl,hS.out⟩
    ·cases tr with
     |false=>
      obtain⟨d,rfl⟩:∃n:Nat,m=(n:Int):=⟨m.toNat,by omega⟩
      have hex:=hid (Jq4 hS.out hI.out hT.out d x (by omega) (by omega) ng)
      have hd64:d<18446744073709551616:=by omega
      have hpf:=fun sg=>hid (Jkh hS.out hF.out d hd64 x (by omega) (by omega) sg)
      replace hd64:=hid hd64;have hz2:(d==0)=false:=by have:=hz.out;simp;omega
      clear hm0 hm1;go_wp2_with fail;with_reducible refine hex.out.mono ?_
      rintro e w4 ⟨fb,ok2,hfb,rfl,rfl⟩;cases ok2 with
      |true=>
       go_wp2_with fail;go_ret3;exact⟨fb,i,0,hfb,.inl rfl,rfl,hS.out⟩
      |false=>
       clear hex;go_wp2_with fail;with_reducible refine(hpf _).out.mono ?_
       rintro e w5 ⟨fb2,k,hfb2,hk,rfl,S5⟩;replace hk:=hid hk;replace S5:=hid S5;go_wp2_with fail;go_ret3;exact⟨fb2,i,k,hfb2,hk.out,rfl,S5.out⟩
     |true=>
      have hpf:=fun sg=>hid (Jki hS.out hF.out m ⟨hm0,hm1⟩ x (by omega) (by omega) sg)
      go_wp2_with fail;with_reducible refine(hpf _).out.mono ?_
      rintro e w5 ⟨fb2,k,hfb2,hk,rfl,S5⟩;have hpf2:=fun d h sg=>hid (Jki S5 hF.out d h x (by omega) (by omega) sg)
      replace hk:=hid hk;replace S5:=hid S5;clear hpf;go_wp2_with fail;with_reducible refine(hpf2 _ (by first|exact J31 _|omega) _).out.mono ?_
      rintro e w6 ⟨fb3,k3,hfb3,-,rfl,S6⟩;clear hpf2 S5;cases heq:(FloatKind.f64.format.order fb2 fb3==some .eq) with
      |true=>
       replace S6:=hid S6;go_wp2_with fail;go_ret3;exact⟨fb2,i,k,hfb2,hk.out,rfl,S6.out⟩
      |false=>
       go_upto_region 29 with fail;have S7:=S6.alloc (.cells Tryz.zeroCells344 344);generalize hw7:w6.alloc _=w7 at S7⊢;generalize w6.heap.size=b at S7⊢;clear hw7 S6;have hz0:J2v Tryz.zeroCells344 0 0 false false:=⟨by kernel_rfl,by kernel_rfl,by kernel_rfl,by kernel_rfl,by kernel_rfl⟩
       have hset:=hid (Jx5 (s.extract 0 i) (by rw[ByteArray.size_extract];omega) (fun k hk=>by
        rw[ByteArray.size_extract] at hk;have:=hB.out k (by omega)
        have e:(s.extract 0 i)[k]'(by rw[ByteArray.size_extract];exact hk)=s[k]'(by omega):=by simp[ByteArray.getElem_extract]
        rw[e];exact this) hz0 S7)
       have hi1:(i:Int)<=(s.size:Int):=by omega
       clear hz0 S7 heq;go_wp2_with fail;with_reducible refine hset.out.mono ?_
       rintro e w8 ⟨ok,rfl,⟨cs8,S8⟩,hdone⟩;clear hset;cases ok with
       |false=>
        have S9:=hid (S8.less (List.sublist_cons_self _ _));clear S8 hdone;go_wp2_with fail;go_ret3;exact⟨0,i,2,by decide,.inr (.inr rfl),rfl,S9.out⟩
       |true=>
        obtain⟨ng2,hd⟩:=hdone rfl
        have hfb:Hid (Calls Tryz.prog 258 #[ptr b,.pointer (some ⟨10,0,none⟩)] w8 (Jlu w0 r b)):=by
         rcases hd with⟨cs,dp,lost,h1,h2⟩|hd
         ·exact hid (Jme hI.out h1 h2)
         ·exact hid (Jmd hI.out hC.out hd)
        clear hd S8 hdone;go_wp2_with fail;with_reducible refine hfb.out.mono ?_
        rintro e w9 ⟨fm,ov,cs9,rfl,hfm0,hfm1,S9⟩;have hfm:=toNat_lt ⟨hfm0,hfm1⟩;replace S9:=hid (S9.less (List.sublist_cons_self _ _));replace hfm:=hid hfm;clear hfb hfm0 hfm1 hm0 hm1;cases ov with
        |true=>
         go_wp2_with fail;go_ret3;exact⟨_,i,1,hfm.out,.inr (.inl rfl),rfl,S9.out⟩
        |false=>
         go_wp2_with fail;go_ret3;exact⟨_,i,0,hfm.out,.inl rfl,rfl,S9.out⟩
theorem Jln {n:String} {g:Nat} {v:Value} (hg:Tryz.prog.globalNamed n=some g) (h:w.var? Tryz.prog n=some #[v]):w.cell? ⟨g,0,none⟩=some v:=by
 unfold World.var? at h;rw[hg] at h;simp only[Option.bind_some] at h;unfold World.cell?;cases hh:w.heap[g]? with
 |none=>rw[hh] at h;simp at h
 |some o=>
  rw[hh] at h;cases o<;>simp_all
def Jzq (v:Value):Prop:=∃t p,v= .iface t p
def K01 (w0:World) (r:Hp) (e:Ending) (w':World):Prop:=∃(fb:Nat) (v:Value),fb<18446744073709551616/\(v= .nilIface\/Jzq v)/\e= .returned (.tuple #[.float .f64 fb,v])/\J3 w0 [] w' r
structure Jau (w:World):Prop where
 g:J17 w
 f:J49 w
 i:Jim w
 t:Joa w
 c:Jfi w
theorem Jwm (hS:J3 w0 [] w r) (hG:Jau w0) (s:ByteArray) (hr:J40 s=true) (hs:s.size<=64):
 Calls Tryz.prog 195 #[.string s,.int .i64 64] w (Jo5 w0 r):=by
 have hat:=hid (Jsf hS hG.f hG.i hG.t hG.c s hr hs)
 have hpre:Hid (Calls Tryz.prog 220 #[.string s,.int .i64 64] w (Jz7 w0 r)):=by
  refine hid ?_;clear hr hS;go_enter Tryz.func220,Tryz.ntmps220;go_wp2_with fail;with_reducible refine hat.out.mono ?_
  rintro e w1 ⟨fb,n,k,hfb,hk,rfl,S1⟩;replace hk:=hid hk;replace S1:=hid S1;go_wp2_with fail;go_ret3;exact⟨fb,n,k,hfb,hk.out,rfl,S1.out⟩
 clear hat hr hS;go_enter Tryz.func195,Tryz.ntmps195;go_wp2_with fail;with_reducible refine hpre.out.mono ?_
 rintro e w1 ⟨fb,n,k,hfb,hk,rfl,S1⟩;replace hk:=hid hk;replace S1:=hid S1;by_cases hn:n=(s.size:Int)
 ·have hn1:(n !=(s.size:Int))=false:=by simpa using hn
  replace hn:=hid hn;go_wp2_with fail;go_ret2;exact⟨fb,k,hfb,hk.out,rfl,S1.out⟩
 ·have hn1:(n !=(s.size:Int))=true:=by simpa using hn
  replace hn:=hid hn;go_wp2_with fail;go_ret2;exact⟨0,2,by decide,.inr (.inr rfl),rfl,S1.out⟩
theorem Jyt (hS:J3 w0 [] w r) (hG:Jau w0) (s:ByteArray) (hr:J40 s=true) (hs:s.size<=64):
 Calls Tryz.prog 157 #[.string s,.int .i64 64] w (K01 w0 r):=by
 have hpf:=hid (Jwm hS hG s hr hs);obtain⟨ts,ps,hsyn⟩:=hG.g.syn
 obtain⟨tr,pr,hrng⟩:=hG.g.rng
 have v1:=Jln (g:=5) (by kernel_rfl) hsyn
 have v2:=Jln (g:=6) (by kernel_rfl) hrng
 replace v1:=hid v1;replace v2:=hid v2;clear hr hS hG hsyn hrng;go_enter Tryz.func157,Tryz.ntmps157;go_wp2_with fail;with_reducible refine hpf.out.mono ?_
 rintro e w1 ⟨fb,k,hfb,hk,rfl,S1⟩;rcases hk with rfl|rfl|rfl
 ·replace S1:=hid S1
  have e0:Jst 0= .nilIface:=rfl;rw[e0];go_wp2_with fail;go_ret2;exact⟨fb,.nilIface,hfb,.inl rfl,rfl,S1.out⟩
 ·have e0:Jst 1= .iface 289 (.int .i64 1):=rfl
  have hte:=hid (Tryz.strconv_toError_range ⟨#[80,97,114,115,101,70,108,111,97,116]⟩ s 0 64 (.iface tr pr) w1 (by omega) (K4 S1 v2.out) (.inr ⟨tr,pr,rfl⟩))
  replace S1:=hid S1;rw[e0];go_wp2_with fail;with_reducible refine hte.out.mono ?_
  rintro e w2 ⟨N,rfl,-,-,hb⟩;have S2:=hid (S1.out.below hb);clear hb;go_wp2_with fail;go_ret2;exact⟨fb,_,hfb,.inr ⟨_,_,rfl⟩,rfl,S2.out⟩
 ·have e0:Jst 2= .iface 289 (.int .i64 2):=rfl
  have hte:=hid (Tryz.strconv_toError_syntax ⟨#[80,97,114,115,101,70,108,111,97,116]⟩ s 0 64 (.iface ts ps) w1 (by omega) (K4 S1 v1.out) (.inr ⟨ts,ps,rfl⟩))
  replace S1:=hid S1;rw[e0];go_wp2_with fail;with_reducible refine hte.out.mono ?_
  rintro e w2 ⟨N,rfl,-,-,hb⟩;have S2:=hid (S1.out.below hb);clear hb;go_wp2_with fail;go_ret2;exact⟨fb,_,hfb,.inr ⟨_,_,rfl⟩,rfl,S2.out⟩
def Jzf (w0:World) (r:Hp) (e:Ending) (w':World):Prop:=∃(fb:Nat) (k:Int),fb<18446744073709551616/\(k=0\/k=21)/\e= .returned (.tuple #[.float .f64 fb,.int .i64 k])/\J3 w0 [] w' r
theorem Jes (hS:J3 w0 [] w r) (hG:Jau w0) (s:ByteArray) (hs:s.size<=1099511627776):
 Calls Tryz.prog 96 #[.string s] w (Jzf w0 r):=by
 have h1:=Jwr;have h2:=Jr4;have h3:=fun w=>J5v 9221120237041090561 w
 by_cases e1:s.toList=[105,110,102]
 ·have S:=hid hS
  clear hS;go_enter Tryz.func96,Tryz.ntmps96;go_wp2_with fail;with_reducible refine(h1 _).mono ?_
  rintro e w1 ⟨rfl,rfl⟩;go_wp2_with fail;go_ret2;exact⟨_,0,by decide,.inl rfl,rfl,S.out⟩
 ·have b1:(s.toList==[105,110,102])=false:=by simpa using e1
  by_cases e2:s.toList=[45,105,110,102]
  ·have S:=hid hS
   clear hS;replace e1:=hid e1;go_enter Tryz.func96,Tryz.ntmps96;go_wp2_with fail;with_reducible refine(h2 _).mono ?_
   rintro e w1 ⟨rfl,rfl⟩;go_wp2_with fail;go_ret2;exact⟨_,0,by decide,.inl rfl,rfl,S.out⟩
  ·have b2:(s.toList==[45,105,110,102])=false:=by simpa using e2
   by_cases e3:s.toList=[110,97,110]
   ·have S:=hid hS
    clear hS;replace e1:=hid e1;replace e2:=hid e2;go_enter Tryz.func96,Tryz.ntmps96;go_wp2_with fail;go_ret2;exact⟨_,0,by decide,.inl rfl,rfl,S.out⟩
   ·have b3:(s.toList==[110,97,110])=false:=by simpa using e3
    clear h1 h2 h3;by_cases h64:64<s.size
    ·have h64':(64:Int)<(s.size:Int):=by omega
     have S:=hid hS;clear hS;replace e1:=hid e1;replace e2:=hid e2;replace e3:=hid e3;go_enter Tryz.func96,Tryz.ntmps96;go_wp2_with fail;go_ret2;exact⟨_,21,by decide,.inr rfl,rfl,S.out⟩
    ·have h64':¬(64:Int)<(s.size:Int):=by omega
     have hri:=hid (Jne hS s hs);replace e1:=hid e1;replace e2:=hid e2;replace e3:=hid e3;cases hr:J40 s with
     |false=>
      rw[hr] at hri;clear hS hr;go_enter Tryz.func96,Tryz.ntmps96;go_wp2_with fail;with_reducible refine hri.out.mono ?_
      rintro e w1 ⟨rfl,S⟩;replace S:=hid S;go_wp2_with fail;go_ret2;exact⟨_,21,by decide,.inr rfl,rfl,S.out⟩
     |true=>
      rw[hr] at hri;have hpf:=fun (w':World) (S':J3 w0 [] w' r)=>hid (Jyt S' hG s hr (by omega))
      replace hpf:=hid hpf;clear hS hr;go_enter Tryz.func96,Tryz.ntmps96;go_wp2_with fail;with_reducible refine hri.out.mono ?_
      rintro e w1 ⟨rfl,S⟩;have hp2:=hpf.out w1 S;clear hpf S;go_wp2_with fail;with_reducible refine hp2.out.mono ?_
      rintro e w2 ⟨fb,v,hfb,hv,rfl,S2⟩;replace S2:=hid S2;clear hp2;rcases hv with rfl|⟨t,p,rfl⟩
      ·go_wp2_with fail
       go_ret2;exact⟨fb,0,hfb,.inl rfl,rfl,S2.out⟩
      ·go_wp2_with fail
       go_ret2;exact⟨0,21,by decide,.inr rfl,rfl,S2.out⟩
end Go.Proofs.YtncbcaabanoeoaaGreatDoor
