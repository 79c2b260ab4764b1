/-
strconv.(*decimal).set: it ends; what it leaves is a decimal.
-/
import Derived.Deep.CutBlock
import Derived.Deep.DeepCutAuto
import Derived.Deep.LoopGhost
import Derived.ScopeJumps
import Derived.StillTailTactics
import Derived.WalkMore
import Derived.Test.YtncbcaabanoeoaaGreatDoorQ28
set_option linter.unusedVariables false
set_option linter.unusedSimpArgs false
set_option maxRecDepth 100000
set_option maxHeartbeats 8000000
namespace Go.Proofs.YtncbcaabanoeoaaGreatDoor
open Go Go.RowKit
variable {w0 wr w:World}{r:Hp}{b i:Nat}{ng:Bool}{dp:Int}{cs:Array Value}
def Jzc (s:ByteArray):Prop:=∀(k:Nat) (h:k<s.size),(48<=(s[k]'h).toNat/\(s[k]'h).toNat<=57)\/(s[k]'h).toNat=45\/(s[k]'h).toNat=46\/(s[k]'h).toNat=101\/(s[k]'h).toNat=43
def J3t (w0 wr:World) (r:Hp) (b:Nat) (ng:Bool) (i n:Nat) (dp:Int):Prop:=
 ∃cs l lost,l.length=n/\J2v cs n dp ng lost/\J1o cs 0 l/\(∀d∈l,d<10)/\(∀d,l[0]? =some d->1<=d)/\(n<=i/\n<=64)/\ -(i:Int)<=dp/\dp<=i/\J3 w0 [] wr ((b,J13 cs)::r)
def Jo9 (w0 wr:World) (r:Hp) (b:Nat) (ng:Bool):Prop:=
 (∃cs dp lost,J2v cs 0 dp ng lost/\J3 w0 [] wr ((b,J13 cs)::r))\/J4g w0 wr r b ng (-150000) 150000
def Jvx (w0:World) (r:Hp) (b:Nat) (e:Ending) (w':World):Prop:=
 ∃ok:Bool,e= .returned (.bool ok)/\(∃cs,J3 w0 [] w' ((b,J13 cs)::r))/\(ok=true->∃ng,Jo9 w0 w' r b ng)
theorem J3t.step {n:Nat} (h:J3t w0 wr r b ng i n dp):∃cs,J3 w0 [] wr ((b,J13 cs)::r):=by
 obtain⟨cs,_,_,_,_,_,_,_,_,_,_,h⟩:=h
 exact⟨cs,h⟩
theorem J3t.done {n:Nat} (h:J3t w0 wr r b ng i n dp) (hi:i<=140000):Jo9 w0 wr r b ng:=by
 obtain⟨cs,l,lost,h1,h2,h3,h4,h5,h6,h7,h8,h9⟩:=h
 cases l with
 |nil=>subst h1;exact .inl ⟨cs,dp,lost,h2,h9⟩
 |cons d l=>exact .inr ⟨⟨d::l,dp,lost⟩,cs,⟨⟨d,l,rfl,h5 d rfl⟩,h4,by show(d::l).length<=800;omega⟩,⟨by show J2v cs (d::l).length _ _ _;rw[h1];exact h2,h3⟩,by show -150000<=dp;omega,by show dp<=150000;omega,h9⟩
theorem J3t.dig {n:Nat} (h:J3t w0 wr r b ng i n dp) (hi:i<64) {c:Nat} (h0:48<=c) (h1:c<=57) (hz:¬(c=48/\n=0)):
 J3t w0 ((wr.setCell ⟨b,n,none⟩ (.int .u8 c)).setCell ⟨b,800,none⟩ (.int .i64 ((n+1:Nat):Int))) r b ng (i+1) (n+1) dp:=by
 obtain⟨cs,l,lost,g1,g2,g3,g4,g5,g6,g7,g8,g9⟩:=h
 have hc:(Value.int .u8 (c:Int))=dgv (c - 48):=by congr 1;omega
 have hsz:=g2.size;rw[hc];refine⟨_,l++[c - 48],lost,by simp[g1],(g2.put n (by omega) _).putNd (n+1),?_,?_,?_,by omega,by omega,by omega,(g9.set n _).set 800 _⟩
 ·have:=g3.snoc (by omega) (c - 48)
  rw[Nat.zero_add,g1] at this;exact this.out 800 _ (.inr (by simp;omega))
 ·intro d hd
  rcases List.mem_append.1 hd with hd|hd
  ·exact g4 d hd
  ·simp at hd;omega
 ·intro d hd
  cases l with
  |nil=>
   simp at hd g1
   omega
  |cons a l=>exact g5 d (by simpa using hd)
theorem J3t.more {n:Nat} (h:J3t w0 wr r b ng i n dp) (dp':Int) (i':Nat) (hi:i<=i') (h0: -(i':Int)<=dp') (h1:dp'<=i'):J3t w0 (wr.setCell ⟨b,801,none⟩ (.int .i64 dp')) r b ng i' n dp':=by
 obtain⟨cs,l,lost,g1,g2,g3,g4,g5,g6,g7,g8,g9⟩:=h
 have:n<=800\/800<n:=by omega
 refine⟨_,l,lost,g1,g2.putDp dp',?_,g4,g5,by omega,h0,h1,g9.set 801 _⟩
 intro j d hj
 have hjj:=(List.getElem?_eq_some_iff.1 hj).1;have:=g3 j d hj
 rw[Array.getElem?_setIfInBounds];split
 ·rename_i he
  rw[Nat.zero_add] at he this;subst he;rw[g2.dp] at this;cases this
 ·exact this
theorem J3t.skip {n:Nat} (h:J3t w0 wr r b ng i n dp) (i':Nat) (hi:i<=i'):J3t w0 wr r b ng i' n dp:=by
 obtain⟨cs,l,lost,g1,g2,g3,g4,g5,g6,g7,g8,g9⟩:=h
 exact⟨cs,l,lost,g1,g2,g3,g4,g5,by omega,by omega,by omega,g9⟩
theorem J3t.drewN {n:Nat} (h:J3t w0 wr r b ng i n dp) (k:Nat):J3t w0 (wr.drewN k) r b ng i n dp:=by
 obtain⟨cs,l,lost,g1,g2,g3,g4,g5,g6,g7,g8,g9⟩:=h
 exact⟨cs,l,lost,g1,g2,g3,g4,g5,g6,g7,g8,g9.drewN k⟩
theorem J3t.walk {n:Nat} (h:J3t w0 wr r b ng i n dp):∃lost,DcW wr b n dp ng lost:=by
 obtain⟨cs,l,lost,g1,g2,g3,g4,g5,g6,g7,g8,g9⟩:=h
 exact⟨lost,g2.walk g9⟩
theorem J3t.cell {n:Nat} (h:J3t w0 wr r b ng i n dp):∃v,wr.cell? ⟨b,n,none⟩=some v:=by
 obtain⟨cs,l,lost,g1,g2,g3,g4,g5,g6,g7,g8,g9⟩:=h
 exact g2.some_ g9 n (by omega)
theorem Jx5 {ng0 lost0:Bool} (s:ByteArray) (hs:s.size<=64) (hB:Jzc s) (hA:J2v cs 0 0 ng0 lost0) (hS:J3 w0 [] w ((b,J13 cs)::r)):
 Calls Tryz.prog 257 #[ptr b,.string s] w (Jvx w0 r b):=by
 have W:=hA.walk hS;have c2:=W.c2;have c3:=W.c3;have fz:=W.fz;have hlt:=W.lt
 have hI0:J3t w0 ((w.setCell ⟨b,802,none⟩ (.bool false)).setCell ⟨b,803,none⟩ (.bool false)) r b false 0 0 0:=
  ⟨_,[],false,rfl,(hA.putNg false).putLost false,fun i d h=>by simp at h,by simp,by simp,by omega,by omega,by omega,(hS.set 802 _).set 803 _⟩
 replace hB:=hid hB;replace hI0:=hid hI0;clear W hA hS;go_enter Tryz.func257,Tryz.ntmps257;by_cases h0:s.size=0
 ·have hse:s=ByteArray.empty:=by
   apply ByteArray.ext;apply Array.eq_empty_of_size_eq_zero;exact h0
  subst hse;replace h0:=hid h0;go_wp2_with fail;go_ret;exact⟨false,rfl,hI0.out.step,by simp⟩
 ·have hs1:0<s.size:=by omega
  have hs2:(0:Int)<(s.size:Int):=by omega
  have hs3:¬(s.size:Int)<=0:=by omega
  have hne:¬s=ByteArray.empty:=by intro h;rw[h] at hs1;exact absurd hs1 (by decide)
  replace h0:=hid h0;go_upto_block 0 with fail;clear c2 c3 fz hlt;generalize hw:(w.setCell ⟨b,802,none⟩ (.bool false)).setCell ⟨b,803,none⟩ (.bool false)=w1 at hI0⊢;clear hw;obtain⟨lo,W⟩:=hI0.out.walk
  have c2:=W.c2;have fz:=W.fz;have hlt:=W.lt
  have hneg:J3t w0 (w1.setCell ⟨b,802,none⟩ (.bool true)) r b true 1 0 0:=by
   obtain⟨cs,l,lost,g1,g2,g3,g4,g5,g6,g7,g8,g9⟩:=hI0.out
   obtain rfl:l=[]:=List.eq_nil_of_length_eq_zero g1;exact⟨_,[],lost,rfl,g2.putNg true,fun i d h=>by simp at h,by simp,by simp,by omega,by omega,by omega,g9.set 802 _⟩
  replace hneg:=hid hneg;clear W;go_cut [5] from 22 to 33 (fun s5 wx=>∃(i0:Nat) (ng:Bool),s5= .int .i64 i0/\i0<=1/\i0<=s.size/\Hid (J3t w0 wx r b ng i0 0 0))
  case first=>
   by_cases x43:(s[0].toNat:Int)=43
   ·have y43:((s[0].toNat:Int)==43)=true:=by simpa using x43
    have hnx:=hid (hI0.out.skip 1 (by omega))
    replace x43:=hid x43;go_wp2_with fail;go_meet
    exact⟨1,false,rfl,by omega,by omega,hnx⟩
   ·have y43:((s[0].toNat:Int)==43)=false:=by simpa using x43
    replace x43:=hid x43;by_cases x45:(s[0].toNat:Int)=45
    ·have y45:((s[0].toNat:Int)==45)=true:=by simpa using x45
     replace x45:=hid x45;go_wp2_with fail;go_meet
     exact⟨1,true,rfl,by omega,by omega,hneg⟩
    ·have y45:((s[0].toNat:Int)==45)=false:=by simpa using x45
     replace x45:=hid x45;go_wp2_with fail;go_meet
     exact⟨0,false,rfl,by omega,by omega,hI0⟩
  case rest=>
   obtain⟨i0,ng,rfl,hi0,hi1,hI⟩:=hcut
   clear hneg hI0 c2 fz hlt hne;go_upto_block 1 with fail;go_cut [5,6,7] from 34 to 116 (fun s5 s6 s7 wx=>∃(i n:Nat) (dp:Int) (sd sg:Bool),s5= .int .i64 i/\s6= .bool sd/\s7= .bool sg/\i<=s.size/\Hid (J3t w0 wx r b ng i n dp))
   case first=>
    go_wp2_with fail;go_loopw [5,6,7] (fun s5 s6 s7 wr=>∃(i n:Nat) (dp:Int) (sd sg:Bool),s5= .int .i64 i/\s6= .bool sd/\s7= .bool sg/\i<=s.size/\Hid (J3t w0 wr r b ng i n dp)) (fun s5 _ _ _=>(s.size - intOf s5).toNat)
    case atStart=>exact⟨i0,0,0,false,false,rfl,rfl,rfl,hi1,hI⟩
    case round=>
     clear hI hi0 hi1;obtain⟨i,n,dp,sd,sg,rfl,rfl,rfl,hi,hI⟩:=hrel
     obtain⟨lo,W⟩:=hI.out.walk
     have c0:=W.c0;have c1:=W.c1;have fz:=W.fz;have hlt:=W.lt
     have hnb:n<=i/\n<=64/\ -(i:Int)<=dp/\dp<=i:=by
      obtain⟨cs,l,lost,g1,g2,g3,g4,g5,g6,g7,g8,g9⟩:=hI.out
      exact⟨g6.1,g6.2,g7,g8⟩
     obtain⟨hnb1,hnb2,hnb3,hnb4⟩:=hnb
     clear W;by_cases hlt1:i<s.size
     ·have hlt2:(i:Int)<(s.size:Int):=by omega
      have hb:=hB.out i hlt1;generalize hy:s[i]=y at hb;by_cases hdig:48<=y.toNat/\y.toNat<=57
      ·obtain⟨g1,g2⟩:=hdig
       have g3:(48:Int)<=(y.toNat:Int):=by omega
       have g4:(y.toNat:Int)<=57:=by omega
       have e1:((y.toNat:Int)==95)=false:=by simp;omega
       have e2:(y.toNat==95)=false:=by simp;omega
       have e3:((y.toNat:Int)==46)=false:=by simp;omega
       have e4:(y.toNat==46)=false:=by simp;omega
       replace hb:=hid hb;by_cases hz:y.toNat=48/\n=0
       ·obtain⟨h48,hn0⟩:=hz
        subst hn0;have q1:((y.toNat:Int)==48)=true:=by rw[h48];rfl
        have q2:(y.toNat==48)=true:=by rw[h48];rfl
        have hnx:=hid (hI.out.more (dp - 1) (i+1) (by omega) (by omega) (by omega))
        replace h48:=hid h48;clear hI;go_wp2_with fail;go_roundw
        case rel=>exact⟨i+1,0,dp - 1,sd,true,by go_num,rfl,rfl,by omega,hnx⟩
        case measure=>simp[intOf];omega
       ·have hdig2:=fun q=>(hI.out.drewN q).dig (by omega) g1 g2 hz
        obtain⟨v,cv⟩:=hI.out.cell
        have hn8:n<800:=by omega
        have hn9:(n:Int)<800:=by omega
        have hq:((y.toNat:Int)==48)=(y.toNat==48):=by
         rw[Bool.eq_iff_iff];simp;omega
        replace hdig2:=hid hdig2;clear hI;by_cases h48:y.toNat=48
        ·have hn0:n≠0:=fun h=>hz ⟨h48,h⟩
         have q1:((y.toNat:Int)==48)=true:=by rw[h48];rfl
         have q2:(y.toNat==48)=true:=by rw[h48];rfl
         have q3:((n:Int)==0)=false:=by simp;omega
         have q4:(n==0)=false:=by simp;omega
         replace h48:=hid h48;replace hn0:=hid hn0;replace hz:=hid hz;clear hq;go_wp2_with fail;go_still_tail 11,(by kernel_rfl)
         go_wp2_with fail;go_roundw
         case rel=>exact⟨i+1,n+1,dp,sd,true,by go_num,rfl,rfl,by omega,hid (hdig2.out 1)⟩
         case measure=>simp[intOf];omega
        ·have q1:((y.toNat:Int)==48)=false:=by simp;omega
         have q2:(y.toNat==48)=false:=by simp;omega
         replace h48:=hid h48;replace hz:=hid hz;clear hq;go_wp2_with fail;go_still_tail 11,(by kernel_rfl)
         go_wp2_with fail;go_roundw
         case rel=>exact⟨i+1,n+1,dp,sd,true,by go_num,rfl,rfl,by omega,hid (hdig2.out 1)⟩
         case measure=>simp[intOf];omega
      ·have e1:((y.toNat:Int)==95)=false:=by simp;omega
       have e2:(y.toNat==95)=false:=by simp;omega
       by_cases hpt:y.toNat=46
       ·have e3:((y.toNat:Int)==46)=true:=by rw[hpt];rfl
        have e4:(y.toNat==46)=true:=by rw[hpt];rfl
        replace hpt:=hid hpt;replace hdig:=hid hdig;replace hb:=hid hb;have hnx:=hid (hI.out.more n (i+1) (by omega) (by omega) (by omega))
        cases sd with
        |true=>
         go_wp2_with fail;go_ret;exact⟨false,rfl,hI.out.step,by simp⟩
        |false=>
         clear hI;go_wp2_with fail;go_roundw
         case rel=>exact⟨i+1,n,n,true,sg,by go_num,rfl,rfl,by omega,hnx⟩
         case measure=>simp[intOf];omega
       ·have e3:((y.toNat:Int)==46)=false:=by simp;omega
        have e4:(y.toNat==46)=false:=by simp;omega
        replace hpt:=hid hpt;replace hb:=hid hb;by_cases g1:48<=y.toNat
        ·have g2:¬y.toNat<=57:=fun h=>hdig ⟨g1,h⟩
         have g3:(48:Int)<=(y.toNat:Int):=by omega
         have g4:¬(y.toNat:Int)<=57:=by omega
         replace hdig:=hid hdig;go_wp2_with fail;go_meet
         exact⟨i,n,dp,sd,sg,rfl,rfl,rfl,hi,hI⟩
        ·have g3:¬(48:Int)<=(y.toNat:Int):=by omega
         replace hdig:=hid hdig;go_wp2_with fail;go_meet
         exact⟨i,n,dp,sd,sg,rfl,rfl,rfl,hi,hI⟩
     ·have hlt2:¬(i:Int)<(s.size:Int):=by omega
      go_wp2_with fail;go_meet
      exact⟨i,n,dp,sd,sg,rfl,rfl,rfl,hi,hI⟩
   case rest=>
    clear hI hi0 hi1;obtain⟨i,n,dp,sd,sg,rfl,rfl,rfl,hi,hI⟩:=hcut
    cases sg with
    |false=>
     go_wp2_with fail;go_ret;exact⟨false,rfl,hI.out.step,by simp⟩
    |true=>
     obtain⟨lo,W⟩:=hI.out.walk
     have c0:=W.c0;have c1:=W.c1;have fz:=W.fz;have hlt:=W.lt
     have hnb:n<=64/\ -64<=dp/\dp<=64:=by
      obtain⟨cs,l,lost,g1,g2,g3,g4,g5,g6,g7,g8,g9⟩:=hI.out
      exact⟨g6.2,by omega,by omega⟩
     clear W;go_upto_if 120 with fail;go_cut [120] from 121 to 127 (fun _ wx=>∃dp:Int,Hid (J3t w0 wx r b ng 64 n dp))
     case first=>
      cases sd with
      |true=>
       go_wp2_with fail;go_meet
       exact⟨dp,hid (hI.out.skip 64 (by omega))⟩
      |false=>
       have hnx:=hid (hI.out.more n 64 (by omega) (by omega) (by omega))
       clear hI;go_wp2_with fail;go_meet
       exact⟨n,hnx⟩
     case rest=>
      obtain⟨dp,hI2⟩:=hcut
      clear hI hnb c0 c1 fz hlt;go_upto_region 32 with fail;go_cut [138] from 128 to 138 (fun s138 wx2=>∃bb:Bool,s138= .bool bb/\(bb=true->i<s.size)/\Hid (J3t w0 wx2 r b ng 64 n dp))
      case first=>
       by_cases hlt:i<s.size
       ·have hlt2:(i:Int)<(s.size:Int):=by omega
        have hlow:=Tryz.internal_strconv_lower (s[i]).toNat;generalize bits .or .u8 ((s[i]).toNat:Int) 32=z at hlow;go_wp2_with fail;with_reducible refine(hlow _).mono ?_
        rintro e w' ⟨rfl,rfl⟩;go_wp2_with fail;go_meet
        exact⟨_,rfl,fun _=>hlt,hI2⟩
       ·go_wp2_with fail
        go_meet
        exact⟨false,rfl,by simp,hI2⟩
      case rest=>
       obtain⟨bb,rfl,hbb,hI⟩:=hcut
       clear hI2;go_upto_if 138 with fail;go_cut [5,8,9] from 139 to 219 (fun s5 s8 s9 wx=>∃(j:Nat) (dp2:Int),s5= .int .i64 j/\Hid (J3t w0 wx r b ng 130000 n dp2))
       case first=>
        cases bb with
        |false=>
         go_wp2_with fail;go_meet
         exact⟨i,dp,rfl,hid (hI.out.skip _ (by omega))⟩
        |true=>
         have hlt:=hbb rfl;clear hbb;by_cases h2:i+1<s.size
         ·have h2':(i:Int)+1<(s.size:Int):=by omega
          have h2'':¬((s.size:Int)<=(i:Int)+1):=by omega
          go_upto_block 4 with fail;go_cut [5,8] from 148 to 155 (fun s5 s8 wx=>∃(j:Nat) (sg:Int),s5= .int .i64 j/\s8= .int .i64 sg/\(sg=1\/sg= -1)/\j<=s.size/\Hid (J3t w0 wx r b ng 64 n dp))
          case first=>
           by_cases y43:((s[i+1].toNat:Int)==43)=true
           ·go_wp2_with fail
            go_meet
            exact⟨i+2,1,by simp[wrap64];omega,rfl,.inl rfl,by omega,hI⟩
           ·replace y43:((s[i+1].toNat:Int)==43)=false:=Bool.eq_false_iff.2 y43
            by_cases y45:((s[i+1].toNat:Int)==45)=true
            ·go_wp2_with fail
             go_meet
             exact⟨i+2,-1,by simp[wrap64];omega,rfl,.inr rfl,by omega,hI⟩
            ·replace y45:((s[i+1].toNat:Int)==45)=false:=Bool.eq_false_iff.2 y45
             go_wp2_with fail;go_meet
             exact⟨i+1,1,by go_num,rfl,.inl rfl,by omega,hI⟩
          case rest=>
           clear hI;obtain⟨j,sg,rfl,rfl,hsg,hj,hI⟩:=hcut
           by_cases hj2:j<s.size
           ·have hj3:(j:Int)<(s.size:Int):=by omega
            have hj4:¬(s.size:Int)<=(j:Int):=by omega
            generalize hy:s[j]=y;by_cases hlo:y.toNat<48
            ·have hlo1:(y.toNat:Int)<48:=by omega
             go_wp2_with fail;go_ret;exact⟨false,rfl,hI.out.step,by simp⟩
            ·have hlo1:¬(y.toNat:Int)<48:=by omega
             by_cases hhi:57<y.toNat
             ·have hhi1:(57:Int)<(y.toNat:Int):=by omega
              go_wp2_with fail;go_ret;exact⟨false,rfl,hI.out.step,by simp⟩
             ·have hhi1:¬(57:Int)<(y.toNat:Int):=by omega
              go_wp2_with fail;go_loop [5,9] (fun s5 s9=>∃(q:Nat) (e:Int),s5= .int .i64 q/\s9= .int .i64 e/\q<=s.size/\0<=e/\e<=100008) (fun s5 _=>(s.size - intOf s5).toNat)
              case atStart=>exact⟨j,0,rfl,rfl,hj,by omega,by omega⟩
              case round=>
               clear hlo hlo1 hhi hhi1 hy hj2 hj3 hj4;obtain⟨q,e,rfl,rfl,hq,he0,he1⟩:=hrel
               obtain⟨lo,W⟩:=hI.out.walk
               have c1:=W.c1;have fz:=W.fz;have hwlt:=W.lt
               have hdpb: -64<=dp/\dp<=64:=by
                obtain⟨cs,l,lost,g1,g2,g3,g4,g5,g6,g7,g8,g9⟩:=hI.out
                exact⟨by omega,by omega⟩
               obtain⟨hdpb1,hdpb2⟩:=hdpb
               have hfin:=fun (x:Int) (h1: -100008<=x) (h2:x<=100008)=>hid (hI.out.more (dp+x) 130000 (by omega) (by omega) (by omega))
               replace hfin:=hid hfin;clear W;by_cases hq2:q<s.size
               ·have hq3:(q:Int)<(s.size:Int):=by omega
                have hb:=hB.out q hq2;generalize hy:s[q]=y at hb;by_cases hdig:48<=y.toNat/\y.toNat<=57
                ·obtain⟨g1,g2⟩:=hdig
                 have g3:(48:Int)<=(y.toNat:Int):=by omega
                 have g4:(y.toNat:Int)<=57:=by omega
                 have g5:((y.toNat:Int)==95)=false:=by simp;omega
                 have g6:(y.toNat==95)=false:=by simp;omega
                 replace hb:=hid hb;by_cases he:e<10000
                 ·go_wp2_with fail
                  go_round
                  case rel=>exact⟨q+1,e*10+((y.toNat:Int) - 48),by go_num,(by first|rfl|(congr 1;omega)),by omega,by omega,by omega⟩
                  case measure=>simp[intOf];omega
                 ·go_wp2_with fail
                  go_round
                  case rel=>exact⟨q+1,e,by go_num,rfl,by omega,by omega,by omega⟩
                  case measure=>simp[intOf];omega
                ·have g5:((y.toNat:Int)==95)=false:=by simp;omega
                 have g6:(y.toNat==95)=false:=by simp;omega
                 replace hb:=hid hb;by_cases g1:48<=y.toNat
                 ·have g2:¬y.toNat<=57:=fun h=>hdig ⟨g1,h⟩
                  have g3:(48:Int)<=(y.toNat:Int):=by omega
                  have g4:¬(y.toNat:Int)<=57:=by omega
                  replace hdig:=hid hdig;rcases hsg with rfl|rfl
                  ·go_wp2_with fail
                   go_meet
                   exact⟨q,_,rfl,hfin.out e (by omega) (by omega)⟩
                  ·go_wp2_with fail
                   go_meet
                   exact⟨q,_,rfl,hfin.out (-e) (by omega) (by omega)⟩
                 ·have g3:¬(48:Int)<=(y.toNat:Int):=by omega
                  replace hdig:=hid hdig;rcases hsg with rfl|rfl
                  ·go_wp2_with fail
                   go_meet
                   exact⟨q,_,rfl,hfin.out e (by omega) (by omega)⟩
                  ·go_wp2_with fail
                   go_meet
                   exact⟨q,_,rfl,hfin.out (-e) (by omega) (by omega)⟩
               ·have hq3:¬(q:Int)<(s.size:Int):=by omega
                rcases hsg with rfl|rfl
                ·go_wp2_with fail
                 go_meet
                 exact⟨q,_,rfl,hfin.out e (by omega) (by omega)⟩
                ·go_wp2_with fail
                 go_meet
                 exact⟨q,_,rfl,hfin.out (-e) (by omega) (by omega)⟩
           ·have hj3:(s.size:Int)<=(j:Int):=by omega
            go_wp2_with fail;go_ret;exact⟨false,rfl,hI.out.step,by simp⟩
         ·have h2':(s.size:Int)<=(i:Int)+1:=by omega
          go_wp2_with fail;go_ret;exact⟨false,rfl,hI.out.step,by simp⟩
       case rest=>
        obtain⟨j,dp2,rfl,hI2⟩:=hcut
        clear hI;by_cases hj:j=s.size
        ·have hj1:((j:Int) !=(s.size:Int))=false:=by simp;omega
         have hj2:(j !=s.size)=false:=by simp;omega
         replace hj:=hid hj;go_wp2_with fail;go_ret;exact⟨true,rfl,hI2.out.step,fun _=>⟨ng,hI2.out.done (by omega)⟩⟩
        ·have hj1:((j:Int) !=(s.size:Int))=true:=by simp;omega
         have hj2:(j !=s.size)=true:=by simp;omega
         replace hj:=hid hj;go_wp2_with fail;go_ret;exact⟨false,rfl,hI2.out.step,by simp⟩
theorem J31 (x:Int):0<=IntKind.u64.wrap x/\IntKind.u64.wrap x<18446744073709551616:=by
 rw[IntKind.wrap_u64];omega
def Jz8 (w:World) (e:Ending) (w':World):Prop:=∃v:Bool,e= .returned (.bool v)/\w'=w
def Jzh (w:World) (e:Ending) (w':World):Prop:=∃m:Int,e= .returned (.int .u64 m)/\0<=m/\m<18446744073709551616/\w'=w
theorem Jks {a:Dc} (hO:J41 a) (hA:J7n cs a ng) (hS:J3 w0 [] w ((b,J13 cs)::r)) (t:Int) (ht0: -1000000000<=t) (ht1:t<=1000000000):
 Calls Tryz.prog 299 #[ptr b,.int .i64 t] w (Jz8 w):=by
 have W:=hA.at_.walk hS;have hl:=hO.len;have hten:=hO.ten;obtain⟨n,hn⟩:∃n,a.ds.length=n:=⟨_,rfl⟩
 rw[hn] at W hl;have c0:=W.c0;have c3:=W.c3
 have hcell:∀i d,a.ds[i]? =some d->w.cell? ⟨b,i,none⟩=some (.int .u8 ((48+d:Nat):Int)):=fun i d h=>by
  have:=hA.dig.cell hS h
  rwa[Nat.zero_add] at this
 obtain⟨lo,hlo⟩:∃lo,a.lost=lo:=⟨_,rfl⟩
 rw[hlo] at c3;replace hcell:=hid hcell;replace hn:=hid hn;replace hten:=hid hten;replace hlo:=hid hlo;clear hA hS W hO;by_cases h0:t<0
 ·go_enter Tryz.func299,Tryz.ntmps299
  go_wp2_with fail;go_ret;exact⟨_,rfl,rfl⟩
 ·obtain⟨m,rfl⟩:∃m:Nat,t=(m:Int):=⟨t.toNat,by omega⟩
  by_cases h1:m<n
  ·obtain⟨d,hd⟩:∃d,a.ds[m]? =some d:=⟨_,List.getElem?_eq_getElem (by rw[hn.out];omega)⟩
   have hd10:=hten.out d (List.mem_of_getElem? hd);obtain⟨c,hc⟩:∃c,48+d=c:=⟨_,rfl⟩
   have cd:=hcell.out m d hd;rw[hc] at cd;have h3:¬(n:Int)<=(m:Int):=by omega
   have h4:¬n<=m:=by omega
   have h5:(m:Int)<800:=by omega
   have h6:m<800:=by omega
   have hc9:c<=57:=by omega
   replace hc:=hid hc;replace hd:=hid hd;by_cases h53:c=53
   ·have e1:((c:Int)==53)=true:=by rw[h53];rfl
    have e2:(c==53)=true:=by rw[h53];rfl
    replace h53:=hid h53;by_cases hlast:m+1=n
    ·have e3:((m:Int)+1==(n:Int))=true:=by simp;omega
     have e4:(m+1==n)=true:=by simp;omega
     replace hlast:=hid hlast;cases lo with
     |true=>
      go_enter Tryz.func299,Tryz.ntmps299;go_wp2_with fail;go_ret;exact⟨_,rfl,rfl⟩
     |false=>
      by_cases hm0:m=0
      ·subst hm0
       go_enter Tryz.func299,Tryz.ntmps299;go_wp2_with fail;go_ret;exact⟨_,rfl,rfl⟩
      ·obtain⟨p,hp⟩:∃p,m=p+1:=⟨m - 1,by omega⟩
       have hmp:(m:Int) - 1=(p:Int):=by omega
       obtain⟨d2,hd2⟩:∃d,a.ds[p]? =some d:=⟨_,List.getElem?_eq_getElem (by rw[hn.out];omega)⟩
       have hd20:=hten.out d2 (List.mem_of_getElem? hd2);obtain⟨c2,hc2⟩:∃c,48+d2=c:=⟨_,rfl⟩
       have cd2:=hcell.out p d2 hd2;rw[hc2] at cd2;have hc29:c2<=57:=by omega
       have hc28:48<=c2:=by omega
       have h7:(p:Int)<800:=by omega
       have h8:p<800:=by omega
       have h9:(0:Int)<(m:Int):=by omega
       have h9':0<m:=by omega
       replace hp:=hid hp;replace hc2:=hid hc2;replace hd2:=hid hd2;replace hm0:=hid hm0;go_enter Tryz.func299,Tryz.ntmps299;go_wp2_with fail;go_ret;exact⟨_,rfl,rfl⟩
    ·have e3:((m:Int)+1==(n:Int))=false:=by simp;omega
     have e4:(m+1==n)=false:=by simp;omega
     replace hlast:=hid hlast;go_enter Tryz.func299,Tryz.ntmps299;go_wp2_with fail;go_ret;exact⟨_,rfl,rfl⟩
   ·have e1:((c:Int)==53)=false:=by simp;omega
    have e2:(c==53)=false:=by simp;omega
    replace h53:=hid h53;go_enter Tryz.func299,Tryz.ntmps299;go_wp2_with fail;go_ret;exact⟨_,rfl,rfl⟩
  ·have h3:(n:Int)<=(m:Int):=by omega
   have h4:n<=m:=by omega
   go_enter Tryz.func299,Tryz.ntmps299;go_wp2_with fail;go_ret;exact⟨_,rfl,rfl⟩
theorem Jkr {a:Dc} (hO:J41 a) (hA:J7n cs a ng) (hS:J3 w0 [] w ((b,J13 cs)::r)) (hdp: -1000000000<=a.dp/\a.dp<=1000000000):
 Calls Tryz.prog 287 #[ptr b] w (Jzh w):=by
 have hru:=Jks hO hA hS a.dp hdp.1 hdp.2;have W:=hA.at_.walk hS;have hl:=hO.len;have hten:=hO.ten;obtain⟨n,hn⟩:∃n,a.ds.length=n:=⟨_,rfl⟩
 rw[hn] at W hl;have c0:=W.c0;have c1:=W.c1
 have hcell:∀i d,a.ds[i]? =some d->w.cell? ⟨b,i,none⟩=some (.int .u8 ((48+d:Nat):Int)):=fun i d h=>by
  have:=hA.dig.cell hS h
  rwa[Nat.zero_add] at this
 obtain⟨dp,hdpe⟩:∃dp,a.dp=dp:=⟨_,rfl⟩
 rw[hdpe] at c1 hru hdp;replace hru:=hid hru;replace hcell:=hid hcell;replace hn:=hid hn;replace hten:=hid hten;replace hdpe:=hid hdpe;clear hA hS W hO;by_cases h20:20<dp
 ·go_enter Tryz.func287,Tryz.ntmps287
  go_wp2_with fail;go_ret;exact⟨18446744073709551615,rfl,by decide,by decide,rfl⟩
 ·go_enter Tryz.func287,Tryz.ntmps287
  go_wp2_with fail;go_loop [3,4] (fun s3 s4=>∃(i:Nat) (m:Int),s3= .int .i64 i/\s4= .int .u64 m/\0<=m/\m<18446744073709551616/\i<=21) (fun s3 _=>30 - (intOf s3).toNat)
  case atStart=>exact⟨0,0,rfl,rfl,by decide,by decide,by decide⟩
  case round=>
   obtain⟨i,m,rfl,rfl,hm0,hm1,hi⟩:=hrel
   by_cases hgo:(i:Int)<dp/\i<n
   ·obtain⟨g1,g2⟩:=hgo
    obtain⟨d,hd⟩:∃d,a.ds[i]? =some d:=⟨_,List.getElem?_eq_getElem (by rw[hn.out];omega)⟩
    have hd10:=hten.out d (List.mem_of_getElem? hd);obtain⟨c,hc⟩:∃c,48+d=c:=⟨_,rfl⟩
    have cd:=hcell.out i d hd;rw[hc] at cd;have g3:(i:Int)<(n:Int):=by omega
    have h5:(i:Int)<800:=by omega
    have h6:i<800:=by omega
    have hc9:c<=57:=by omega
    have hc8:48<=c:=by omega
    replace hc:=hid hc;replace hd:=hid hd;go_wp2_with fail;go_round
    case rel=>exact⟨i+1,_,by go_num,rfl,(J31 _).1,(J31 _).2,by omega⟩
    case measure=>simp[intOf];omega
   ·have hout:(i:Int)<dp->¬(i:Int)<(n:Int):=fun h hc=>hgo ⟨h,by omega⟩
    clear hgo;have hrest:∃q:Bool,q=decide ((i:Int)<dp):=⟨_,rfl⟩;by_cases g1:(i:Int)<dp
    ·have g2:=hout g1
     have g3:¬i<n:=by omega
     replace hout:=hid hout;go_wp2_with fail;go_loop [3,4] (fun s3 s4=>∃(i:Nat) (m:Int),s3= .int .i64 i/\s4= .int .u64 m/\0<=m/\m<18446744073709551616/\i<=21) (fun s3 _=>30 - (intOf s3).toNat)
     case atStart=>exact⟨i,m,rfl,rfl,hm0,hm1,hi⟩
     case round=>
      clear g1 g2 g3 hm0 hm1 hi hout;obtain⟨i,m,rfl,rfl,hm0,hm1,hi⟩:=hrel
      by_cases g1:(i:Int)<dp
      ·go_wp2_with fail
       go_round
       case rel=>exact⟨i+1,_,by go_num,rfl,(J31 _).1,(J31 _).2,by omega⟩
       case measure=>simp[intOf];omega
      ·go_wp2_with fail
       refine hru.out.mono ?_;rintro e w1 ⟨v,rfl,rfl⟩;cases v<;>(go_wp2_with fail;go_ret)
       ·exact⟨m,rfl,hm0,hm1,rfl⟩
       ·exact⟨_,rfl,(J31 _).1,(J31 _).2,rfl⟩
    ·replace hout:=hid hout
     go_wp2_with fail;go_loop [3,4] (fun s3 s4=>s3= .int .i64 i/\s4= .int .u64 m) (fun s3 _=>0)
     case atStart=>exact⟨rfl,rfl⟩
     case round=>
      obtain⟨rfl,rfl⟩:=hrel
      go_wp2_with fail;refine hru.out.mono ?_;rintro e w1 ⟨v,rfl,rfl⟩;cases v<;>(go_wp2_with fail;go_ret)
      ·exact⟨m,rfl,hm0,hm1,rfl⟩
      ·exact⟨_,rfl,(J31 _).1,(J31 _).2,rfl⟩
def Jt5 (l0 l1:Nat) (J0 J1:Act->World->Prop) (Q:Exit->Act->World->Prop):Exit->Act->World->Prop
 | .goto l,a,w=>(l=l0/\J0 a w)\/(l=l1/\J1 a w)
 |e,a,w=>Q e a w
theorem J4s {P:Program} {a:Act} {Q:Exit->Act->World->Prop} {c r0 r1:Code} (l0 l1:Nat) (h0:findLabel c l0=some r0) (h1:findLabel c l1=some r1)
 (first:∀J0 J1:Act->World->Prop,Hid (∀a w,r0.wp P (Exit.noGoto Q) a w->J0 a w)->Hid (∀a w,r1.wp P (Jt5 l0 l0 J0 J0 Q) a w->J1 a w)->c.wp P (Jt5 l0 l1 J0 J1 Q) a w):(Code.scope c).wp P Q a w:=by
  intro b k cs
  have g0:gotoIn l0 (.inScope c::k)=some (.code r0:: .inScope c::k):=by simp[gotoIn,h0]
  have g1:gotoIn l1 (.inScope c::k)=some (.code r1:: .inScope c::k):=by simp[gotoIn,h1]
  have key0:∀a w,r0.wp P (Exit.noGoto Q) a w->∃e a' w',Q e a' w'/\Arrives P (lone (b.at a (.code r0:: .inScope c::k)) cs w) b k cs e a' w':=by
   intro a w h
   obtain⟨e,a₁,w₁,hq,harr⟩:=h b (.inScope c::k) cs
   cases e with
   |normal=>exact⟨.normal,a₁,w₁,hq,Steps.trans harr (.one step_inScope)⟩
   |exit id=>exact⟨.exit id,a₁,w₁,hq,fun k' hk=>harr k' (by simp[exitTo,hk])⟩
   |goto l'=>exact hq.elim
   |ret=>exact⟨_,a₁,w₁,hq,harr⟩
   |panic ch=>exact⟨_,a₁,w₁,hq,harr⟩
   |outgrown=>exact⟨_,a₁,w₁,hq,harr⟩
  have key1:∀a w,r1.wp P (Jt5 l0 l0 (fun a w=>r0.wp P (Exit.noGoto Q) a w) (fun a w=>r0.wp P (Exit.noGoto Q) a w) Q) a w->∃e a' w',Q e a' w'/\Arrives P (lone (b.at a (.code r1:: .inScope c::k)) cs w) b k cs e a' w':=by
   intro a w h
   obtain⟨e,a₁,w₁,hq,harr⟩:=h b (.inScope c::k) cs
   cases e with
   |normal=>exact⟨.normal,a₁,w₁,hq,Steps.trans harr (.one step_inScope)⟩
   |exit id=>exact⟨.exit id,a₁,w₁,hq,fun k' hk=>harr k' (by simp[exitTo,hk])⟩
   |goto l'=>
    obtain⟨rfl,hj⟩|⟨rfl,hj⟩:=hq
    all_goals
     obtain⟨e₂,a₂,w₂,hq₂,harr₂⟩:=key0 a₁ w₁ hj
     exact⟨e₂,a₂,w₂,hq₂,.of_steps (harr _ g0) harr₂⟩
   |ret=>exact⟨_,a₁,w₁,hq,harr⟩
   |panic ch=>exact⟨_,a₁,w₁,hq,harr⟩
   |outgrown=>exact⟨_,a₁,w₁,hq,harr⟩
  obtain⟨e,a₁,w₁,hq,harr⟩:=first (fun a w=>r0.wp P (Exit.noGoto Q) a w) (fun a w=>r1.wp P (Jt5 l0 l0 (fun a w=>r0.wp P (Exit.noGoto Q) a w) (fun a w=>r0.wp P (Exit.noGoto Q) a w) Q) a w) (hid fun _ _ h=>h) (hid fun _ _ h=>h) b (.inScope c::k) cs
  cases e with
  |normal=>exact⟨.normal,a₁,w₁,hq,.head step_scope (Steps.trans harr (.one step_inScope))⟩
  |exit id=>exact⟨.exit id,a₁,w₁,hq,fun k' hk=>.head step_scope (harr k' (by simp[exitTo,hk]))⟩
  |goto l'=>
   obtain⟨rfl,hj⟩|⟨rfl,hj⟩:=hq
   ·obtain⟨e₂,a₂,w₂,hq₂,harr₂⟩:=key0 a₁ w₁ hj
    exact⟨e₂,a₂,w₂,hq₂,.of_steps (.head step_scope (harr _ g0)) harr₂⟩
   ·obtain⟨e₂,a₂,w₂,hq₂,harr₂⟩:=key1 a₁ w₁ hj
    exact⟨e₂,a₂,w₂,hq₂,.of_steps (.head step_scope (harr _ g1)) harr₂⟩
  |ret=>exact⟨_,a₁,w₁,hq,.of_steps (.one step_scope) harr⟩
  |panic ch=>exact⟨_,a₁,w₁,hq,.of_steps (.one step_scope) harr⟩
  |outgrown=>exact⟨_,a₁,w₁,hq,.of_steps (.one step_scope) harr⟩
structure Jim (w:World):Prop where
 c0:w.cell? ⟨10,0,none⟩=some (.int .u64 52)
 c1:w.cell? ⟨10,1,none⟩=some (.int .u64 11)
 c2:w.cell? ⟨10,2,none⟩=some (.int .i64 (-1023))
 opt:w.cell? ⟨9,0,none⟩=some (.bool true)
 two:∃pb po pc,w.cell? ⟨12,0,none⟩=some (.slice (some ⟨pb,po,none⟩) 9 pc)/\∀i,i<9->∃n:Nat,1<=n/\n<=27/\w.cell? ⟨pb,po+i,none⟩=some (.int .i64 n)
theorem K0 (op:BinOp) (hop:op= .and\/op= .or) (x y:Int):0<=bits op .u64 x y/\bits op .u64 x y<18446744073709551616:=by
 rcases hop with rfl|rfl<;>exact J31 _
def Jlu (w0:World) (r:Hp) (b:Nat) (e:Ending) (w':World):Prop:=∃(m:Int) (v:Bool) (cs:Array Value),e= .returned (.tuple #[.int .u64 m,.bool v])/\0<=m/\m<18446744073709551616/\J3 w0 [] w' ((b,J13 cs)::r)
theorem Jme {lost:Bool} (hI:Jim w0) (hA:J2v cs 0 dp ng lost) (hS:J3 w0 [] w ((b,J13 cs)::r)):
 Calls Tryz.prog 258 #[ptr b,.pointer (some ⟨10,0,none⟩)] w (Jlu w0 r b):=by
 have W:=hA.walk hS;have c0:=W.c0;have c2:=W.c2;have i0:=K4 hS hI.c0;have i1:=K4 hS hI.c1;have i2:=K4 hS hI.c2;have hS:=hid hS;clear hI hA W;go_enter Tryz.func258,Tryz.ntmps258;go_wp2_with fail;refine J4s 0 1 rfl rfl fun J0 J1 hJ0 hJ1=>?_
 go_wp2_with fail;go_step3
 refine Or.inl ⟨rfl,hJ0.out _ _ ?_⟩;clear hJ0 hJ1;go_wp2_with fail;go_quiet (fail);cases ng with
 |true=>
  go_wp2_with fail;go_quiet (fail);go_wp2_with fail;try rw[Exit.noGoto_ret]
  go_ret2;exact⟨_,_,cs,rfl,(K0 _ (.inr rfl) _ _).1,(K0 _ (.inr rfl) _ _).2,(hS.out.drewN _).drewN _⟩
 |false=>
  go_wp2_with fail;try rw[Exit.noGoto_ret]
  go_ret2;exact⟨_,_,cs,rfl,(K0 _ (.inr rfl) _ _).1,(K0 _ (.inr rfl) _ _).2,hS.out.drewN _⟩
end Go.Proofs.YtncbcaabanoeoaaGreatDoor
