/-
strconv.(*decimal).floatBits at a decimal that has digits: it ends, with some bits (printed by gen_bits.py).
-/
import Derived.Outline
import Derived.Test.YtncbcaabanoeoaaGreatDoorQ26
import Derived.Test.YtncbcaabanoeoaaGreatDoorQ29
set_option linter.unusedVariables false
set_option linter.unusedSimpArgs false
set_option maxRecDepth 100000
set_option maxHeartbeats 8000000
namespace Go.Proofs.YtncbcaabanoeoaaGreatDoor
open Go Go.RowKit
variable {a:Dc}{w0:World}{r:Hp}{b x:Nat}{ng:Bool}{e p:Int}
theorem J0z {l0 l1:Nat} {J0 J1:Act->World->Prop} {Q:Exit->Act->World->Prop} {a:Act} {w:World}:Jt5 l0 l1 J0 J1 Q .ret a w=Q .ret a w:=rfl
def FB1 (w0 wr:World) (r:Hp) (b:Nat) (ng:Bool) (g:Nat):Prop:=∃a cs,J41 a/\J7n cs a ng/\ -1000<=a.dp/\a.dp<=310/\a.dp.toNat*10+a.top=g/\J3 w0 [] wr ((b,J13 cs)::r)
def FB2 (w0 wr:World) (r:Hp) (b:Nat) (ng:Bool) (g:Nat):Prop:=∃a cs,J41 a/\J7n cs a ng/\ -1000<=a.dp/\a.dp<=60/\((61 - a.dp)*10+9 - a.top).toNat=g/\J3 w0 [] wr ((b,J13 cs)::r)
theorem J3k (h:J41 a):1<=a.top/\a.top<=9/\a.ds[0]? =some a.top:=by
 obtain⟨d,es,hds,hd⟩:=h.head
 have:=h.ten d (by rw[hds];simp)
 unfold Dc.top;rw[hds];exact⟨hd,by simp;omega,by simp⟩
theorem FB1.next {wr w':World} (hO:J41 a) (h0:0<a.dp) (h1:a.dp<=310) {n:Nat} (n1:1<=n) (n2:n<=60) {cs:Array Value} (hA:J7n cs (a.right n) ng) (hS:J3 w0 [] w' ((b,J13 cs)::r)):
 ∃g,g<a.dp.toNat*10+a.top/\FB1 w0 w' r b ng g:=by
 have hd:=Jeo hO n1 n2;obtain⟨g1,g2⟩:=Jao hO n1
 have t1:=J3k hO;have t2:=J3k g1;refine⟨_,?_,a.right n,cs,g1,hA,by omega,by omega,rfl,hS⟩
 rcases g2 with g|⟨g,g'⟩
 ·omega
 ·rw[g];omega
theorem FB2.next {wr w':World} (hO:J41 a) (h0:a.dp<=0) (h1: -1000<=a.dp) {n:Nat} (n1:1<=n) (n2:n<=60) {cs:Array Value} (hA:J7n cs (a.left n) ng) (hS:J3 w0 [] w' ((b,J13 cs)::r)):
 ∃g,g<((61 - a.dp)*10+9 - a.top).toNat/\FB2 w0 w' r b ng g:=by
 obtain⟨g1,g2,g3⟩:=Jos hO n1 n2
 have hd:=(J55 hO n1 n2).2.2;have t1:=J3k hO;have t2:=J3k g1;refine⟨_,?_,a.left n,cs,g1,hA,by omega,by omega,rfl,hS⟩
 rw[g2];rcases Nat.eq_zero_or_pos (J1j a n) with h|h
 ·have:=g3 h;omega
 ·omega
theorem Jmd {w:World} (hI:Jim w0) (hG:Jfi w0) (h:J4g w0 w r b ng (-150000) 150000):
 Calls Tryz.prog 258 #[ptr b,.pointer (some ⟨10,0,none⟩)] w (Jlu w0 r b):=by
 obtain⟨a,cs,hO,hA,g1,g2,S0⟩:=h
 have hI:=hid hI;have hG:=hid hG;have W:=hA.at_.walk S0;have c0:=W.c0;have c1:=W.c1;have c2:=W.c2;have i0:=K4 S0 hI.out.c0;have i1:=K4 S0 hI.out.c1;have i2:=K4 S0 hI.out.c2;have hn:=Joy hO;obtain⟨n,hn'⟩:∃n,a.ds.length=n:=⟨_,rfl⟩
 obtain⟨dp,hdp⟩:∃dp,a.dp=dp:=⟨_,rfl⟩
 rw[hdp] at c1 g1 g2;rw[hn'] at c0 hn;have t1:((n:Int)==0)=false:=by simp;omega
 have t2:(n==0)=false:=by simp;omega
 have hS0:=hid S0;have hO0:=hid hO;have hA0:=hid hA;replace hn':=hid hn';replace hdp:=hid hdp;clear W hO hA S0;by_cases hov:310<dp
 ·go_enter Tryz.func258,Tryz.ntmps258
  go_wp2_with fail;refine J4s 0 1 rfl rfl fun J0 J1 hJ0 hJ1=>?_
  go_wp2_with fail;go_step3
  refine Or.inr ⟨rfl,hJ1.out _ _ ?_⟩;clear hJ0 hJ1;go_wp2_with fail;go_quiet (fail);go_wp2_with fail;go_step3
  go_wp2_with fail;go_quiet (fail);cases ng with
  |true=>
   go_wp2_with fail;go_quiet (fail);go_wp2_with fail;try rw[Exit.noGoto_ret]
   try rw[J0z]
   go_ret2;exact⟨_,_,_,rfl,(K0 _ (.inr rfl) _ _).1,(K0 _ (.inr rfl) _ _).2,(by first|exact J3.drewN hS0.out _|exact J3.drewN (J3.drewN hS0.out _) _|exact J3.drewN (J3.drewN (J3.drewN hS0.out _) _) _|exact hS0.out)⟩
  |false=>
   go_wp2_with fail;try rw[Exit.noGoto_ret]
   try rw[J0z]
   go_ret2;exact⟨_,_,_,rfl,(K0 _ (.inr rfl) _ _).1,(K0 _ (.inr rfl) _ _).2,(by first|exact J3.drewN hS0.out _|exact J3.drewN (J3.drewN hS0.out _) _|exact J3.drewN (J3.drewN (J3.drewN hS0.out _) _) _|exact hS0.out)⟩
 ·by_cases hun:dp< -330
  ·go_enter Tryz.func258,Tryz.ntmps258
   go_wp2_with fail;refine J4s 0 1 rfl rfl fun J0 J1 hJ0 hJ1=>?_
   go_wp2_with fail;go_step3
   refine Or.inl ⟨rfl,hJ0.out _ _ ?_⟩;clear hJ0 hJ1;go_wp2_with fail;go_quiet (fail);cases ng with
   |true=>
    go_wp2_with fail;go_quiet (fail);go_wp2_with fail;try rw[Exit.noGoto_ret]
    try rw[J0z]
    go_ret2;exact⟨_,_,_,rfl,(K0 _ (.inr rfl) _ _).1,(K0 _ (.inr rfl) _ _).2,(by first|exact J3.drewN hS0.out _|exact J3.drewN (J3.drewN hS0.out _) _|exact J3.drewN (J3.drewN (J3.drewN hS0.out _) _) _|exact hS0.out)⟩
   |false=>
    go_wp2_with fail;try rw[Exit.noGoto_ret]
    try rw[J0z]
    go_ret2;exact⟨_,_,_,rfl,(K0 _ (.inr rfl) _ _).1,(K0 _ (.inr rfl) _ _).2,(by first|exact J3.drewN hS0.out _|exact J3.drewN (J3.drewN hS0.out _) _|exact J3.drewN (J3.drewN (J3.drewN hS0.out _) _) _|exact hS0.out)⟩
  ·obtain⟨pb,po,pc,p0,pk⟩:=hI.out.two
   have hb1:FB1 w0 w r b ng (dp.toNat*10+a.top):=⟨a,cs,hO0.out,hA0.out,by rw[hdp.out];omega,by rw[hdp.out];omega,by rw[hdp.out],hS0.out⟩
   have ht9:=(J3k hO0.out).2.1;obtain⟨G,hGe⟩:∃G,dp.toNat*10+a.top=G:=⟨_,rfl⟩
   have hG9:G<=3200:=by omega
   rw[hGe] at hb1;replace hb1:=hid hb1;replace hGe:=hid hGe;replace pk:=hid pk;replace p0:=hid p0;clear ht9;go_enter Tryz.func258,Tryz.ntmps258;go_wp2_with fail;refine J4s 0 1 rfl rfl fun J0 J1 hJ0 hJ1=>?_
   go_upto_block 0 with fail;clear c0 c1 c2 i0 i1 i2 t1 t2;go_cut [6] from 35 to 60 (fun s6 wx=>∃(ex:Int) (g:Nat),s6= .int .i64 ex/\0<=ex/\ex<=90000/\Hid (∃a cs,J41 a/\J7n cs a ng/\ -1000<=a.dp/\a.dp<=0/\J3 w0 [] wx ((b,J13 cs)::r)))
   case first=>
    go_wp2_with fail;go_loopg [6] G (fun g s6 wr=>∃ex:Int,s6= .int .i64 ex/\0<=ex/\ex+27*(g:Int)<=86400/\Hid (FB1 w0 wr r b ng g))
    case atStart=>exact⟨0,rfl,by omega,by omega,hb1⟩
    case round=>
     clear hb1 hG9;obtain⟨ex,rfl,hx0,hx1,hR⟩:=hrel
     obtain⟨a,cs,hO,hA,h0,h1,hg,S0⟩:=hR.out
     have c1:=(hA.at_.walk S0).c1;obtain⟨d,hd⟩:∃d,a.dp=d:=⟨_,rfl⟩
     rw[hd] at c1;replace hg:=hid hg;by_cases hpos:0<d
     ·have hshift:=fun (m:World) (hm:J3 w0 [] m ((b,J13 cs)::r)) (n:Nat) n1 n2=>Jkx hO hA n n1 n2 (by omega) hm
      have hnext:=fun (w':World) (cs':Array Value) (n:Nat) n1 n2 (hA':J7n cs' (a.right n) ng) (hS':J3 w0 [] w' ((b,J13 cs')::r))=>FB1.next (wr:=wr) (w':=w') (cs:=cs') (n:=n) hO (by omega) (by omega) n1 n2 hA' hS'
      rw[hg.out] at hnext;have q0:=K4 S0 p0.out;have hdr:=fun q=>S0.drewN q
      replace hdr:=hid hdr;replace hnext:=hid hnext;replace hshift:=hid hshift;by_cases h9:9<=d
      ·have hcall:=hid (hshift.out _ (hdr.out 0) 27 (by decide) (by decide))
       replace hd:=hid hd;clear hR hO hA S0 hcall;go_wp2_with fail;go_quiet (fail);have hcall:=hid (hshift.out _ (hdr.out nq) 27 (by decide) (by decide))
       go_wp2_with fail;refine hcall.out.mono ?_;rintro e w' ⟨rfl,cs',hA',S'⟩;obtain⟨g',hg1,hg2⟩:=hnext.out w' cs' 27 (by decide) (by decide) hA' S'
       replace hg2:=hid hg2;clear hcall hA' S' q0;go_wp2_with fail;go_roundg g'
       case measure=>exact hg1
       case rel=>exact⟨ex+27,rfl,by omega,by omega,hg2⟩
      ·obtain⟨i,hi⟩:∃i:Nat,d=(i:Int):=⟨d.toNat,by omega⟩
       obtain⟨n,n1,n2,qn⟩:=pk.out i (by omega)
       have qn:=K4 S0 qn;subst hi;have hi9:(i:Int)<9:=by omega
       have hi8:i<9:=by omega
       replace hd:=hid hd;clear hR hO hA S0;go_wp2_with fail;go_quiet (fail);have hdr1:=fun p=>hdr.out (nq+p)
       replace hdr1:=hid hdr1;go_wp2_with fail;go_quiet (fail);have hcall:=hid (hshift.out _ (hdr1.out nq) n n1 (by omega))
       go_wp2_with fail;refine hcall.out.mono ?_;rintro e w' ⟨rfl,cs',hA',S'⟩;obtain⟨g',hg1,hg2⟩:=hnext.out w' cs' n n1 (by omega) hA' S'
       replace hg2:=hid hg2;clear hcall hA' S' q0 qn;go_wp2_with fail;go_roundg g'
       case measure=>exact hg1
       case rel=>exact⟨ex+n,rfl,by omega,by omega,hg2⟩
     ·have hfin:=hid (show ∃a cs,J41 a/\J7n cs a ng/\ -1000<=a.dp/\a.dp<=0/\J3 w0 [] wr ((b,J13 cs)::r) from⟨a,cs,hO,hA,h0,by omega,S0⟩)
      replace hd:=hid hd;clear hR hO hA S0;go_wp2_with fail;go_meet
      exact⟨ex,0,rfl,hx0,by omega,hfin⟩
   case rest=>
    obtain⟨ex,_,rfl,hx0,hx1,hR⟩:=hcut
    obtain⟨a,cs,hO,hA,h0,h1,S0⟩:=hR.out
    have ht9:=J3k hO;have hb2:FB2 w0 wc r b ng ((61 - a.dp)*10+9 - a.top).toNat:=⟨a,cs,hO,hA,h0,by omega,rfl,S0⟩
    obtain⟨G2,hGe2⟩:∃G,((61 - a.dp)*10+9 - a.top).toNat=G:=⟨_,rfl⟩
    have hG29:G2<=11000:=by omega
    rw[hGe2] at hb2;replace hb2:=hid hb2;replace hGe2:=hid hGe2;clear hR hO hA S0 ht9 h0 h1 hb1 hG9;go_upto_block 2 with fail;go_cut [6] from 61 to 102 (fun s6 wx=>∃ex:Int,s6= .int .i64 ex/\ -300000<=ex/\ex<=90000/\Hid (J4g w0 wx r b ng (-1000) 60))
    case first=>
     go_wp2_with fail;go_loopg [6] G2 (fun g s6 wr=>∃ex:Int,s6= .int .i64 ex/\ex<=90000/\ -297000<=ex - 27*(g:Int)/\Hid (FB2 w0 wr r b ng g))
     case atStart=>exact⟨ex,rfl,hx1,by omega,hb2⟩
     case round=>
      clear hb2 hG29 hx0 hx1;obtain⟨ex,rfl,hx1,hx0,hR⟩:=hrel
      obtain⟨a,cs,hO,hA,h0,h1,hg,S0⟩:=hR.out
      have c1:=(hA.at_.walk S0).c1;obtain⟨tt1,tt2,tt3⟩:=J3k hO
      obtain⟨c,hc⟩:∃c,48+a.top=c:=⟨_,rfl⟩
      have cd:wr.cell? ⟨b,0,none⟩=some (.int .u8 (c:Int)):=by rw[<-hc];exact hA.dig.cell S0 tt3
      obtain⟨d,hd⟩:∃d,a.dp=d:=⟨_,rfl⟩
      rw[hd] at c1;have hlo: -1000<=d:=by omega
      have hhi:d<=60:=by omega
      replace hg:=hid hg;have hdone:Hid (J4g w0 wr r b ng (-1000) 60):=hid ⟨a,cs,hO,hA,h0,h1,S0⟩;by_cases hgo:d<0\/(d=0/\c<53)
      ·have hshift:=fun (m:World) (hm:J3 w0 [] m ((b,J13 cs)::r)) (n:Nat) n1 n2=>Jew hG.out hO hA n n1 n2 (by omega) hm
       have hnext:=fun (w':World) (cs':Array Value) (n:Nat) n1 n2 (hA':J7n cs' (a.left n) ng) (hS':J3 w0 [] w' ((b,J13 cs')::r))=>FB2.next (wr:=wr) (w':=w') (cs:=cs') (n:=n) hO (by omega) (by omega) n1 n2 hA' hS'
       rw[hg.out] at hnext;have q0:=K4 S0 p0.out;have hdr:=fun q=>S0.drewN q
       replace hdr:=hid hdr;replace hnext:=hid hnext;replace hshift:=hid hshift;replace hc:=hid hc;clear tt1 tt2 tt3 hdone;by_cases h9:9<= -d
       ·have hneg:d<0:=by omega
        have h9':d<= -9:=by omega
        replace hd:=hid hd;replace hgo:=hid hgo;clear hR hO hA S0;go_wp2_with fail;go_quiet (fail);have hcall:=hid (hshift.out _ (hdr.out nq) 27 (by decide) (by decide))
        go_wp2_with fail;refine hcall.out.mono ?_;rintro e w' ⟨rfl,cs',hA',S'⟩;obtain⟨g',hg1,hg2⟩:=hnext.out w' cs' 27 (by decide) (by decide) hA' S'
        replace hg2:=hid hg2;clear hcall hA' S' q0;go_wp2_with fail;go_roundg g'
        case measure=>exact hg1
        case rel=>exact⟨ex - 27,rfl,by omega,by omega,hg2⟩
       ·obtain⟨i,hi⟩:∃i:Nat,-d=(i:Int):=⟨(-d).toNat,by omega⟩
        obtain⟨n,n1,n2,qn⟩:=pk.out i (by omega)
        have qn:=K4 S0 qn;have hi9:(i:Int)<9:=by omega
        have hi8:i<9:=by omega
        have hnine:¬9<= -d:=h9;replace hd:=hid hd;clear hR hO hA S0;rcases hgo with hgo|⟨hgo,hc5⟩
        ·obtain rfl:d= -(i:Int):=by omega
         have hneg: -(i:Int)<0:=by omega
         replace hi:=hid hi;clear h9 hnine;go_wp2_with fail;go_quiet (fail);have hdr1:=fun p=>hdr.out (nq+p)
         replace hdr1:=hid hdr1;go_wp2_with fail;go_quiet (fail);have hcall:=hid (hshift.out _ (hdr1.out nq) n n1 (by omega))
         go_wp2_with fail;refine hcall.out.mono ?_;rintro e w' ⟨rfl,cs',hA',S'⟩;obtain⟨g',hg1,hg2⟩:=hnext.out w' cs' n n1 (by omega) hA' S'
         replace hg2:=hid hg2;clear hcall hA' S' q0 qn;go_wp2_with fail;go_roundg g'
         case measure=>exact hg1
         case rel=>exact⟨ex - n,rfl,by omega,by omega,hg2⟩
        ·subst hgo
         obtain rfl:i=0:=by omega
         rw[Nat.add_zero] at qn;have hc6:(c:Int)<53:=by omega
         replace hi:=hid hi;clear h9 hnine;go_wp2_with fail;go_quiet (fail);have hdr1:=fun p=>hdr.out (nq+p)
         replace hdr1:=hid hdr1;go_wp2_with fail;go_quiet (fail);have hcall:=hid (hshift.out _ (hdr1.out nq) n n1 (by omega))
         go_wp2_with fail;refine hcall.out.mono ?_;rintro e w' ⟨rfl,cs',hA',S'⟩;obtain⟨g',hg1,hg2⟩:=hnext.out w' cs' n n1 (by omega) hA' S'
         replace hg2:=hid hg2;clear hcall hA' S' q0 qn;go_wp2_with fail;go_roundg g'
         case measure=>exact hg1
         case rel=>exact⟨ex - n,rfl,by omega,by omega,hg2⟩
      ·have hn1:¬d<0:=fun h=>hgo (.inl h)
       by_cases hd0:d=0
       ·have hc5:¬c<53:=fun h=>hgo (.inr ⟨hd0,h⟩)
        have hc6:¬(c:Int)<53:=by omega
        subst hd0;replace hd:=hid hd;replace hc:=hid hc;clear hR hO hA S0 hgo tt1 tt2 tt3;go_wp2_with fail;go_meet
        exact⟨ex,rfl,by omega,hx1,hdone⟩
       ·have hd1:(d==0)=false:=by simp;omega
        replace hd:=hid hd;replace hd0:=hid hd0;replace hc:=hid hc;clear hR hO hA S0 hgo tt1 tt2 tt3;go_wp2_with fail;go_meet
        exact⟨ex,rfl,by omega,hx1,hdone⟩
    case rest=>
     obtain⟨ex,rfl,hx0,hx1,hR⟩:=hcut
     clear hb2 hG29;obtain⟨y,rfl⟩:∃y,ex=y+1:=⟨ex - 1,by omega⟩
     obtain⟨a,cs,hO,hA,h0,h1,S0⟩:=hR.out
     have i2:=K4 S0 hI.out.c2;clear hO hA h0 h1 S0;go_upto_if 111 with fail;go_cut [6,10] from 111 to 125 (fun s6 s10 wx=>∃ex:Int,s6= .int .i64 ex/\ -400000<=ex/\ex<=90000/\Hid (J4g w0 wx r b ng (-100000000) 60))
     case first=>
      by_cases hlow:y< -1022
      ·obtain⟨k,hk⟩:∃k:Nat,(k:Int)= -1022 - y:=⟨(-1022 - y).toNat,by omega⟩
       have hsd:=Jnj (lo:= -1000) (hi:=60) k (by omega) (by omega) (by decide) (by decide) hR.out
       rw[hk] at hsd;replace hsd:=hid hsd;replace hk:=hid hk;clear hR;go_wp2_with fail;with_reducible refine hsd.out.mono ?_
       rintro e w' ⟨rfl,hX⟩;replace hX:=hid hX;clear hsd i2;go_wp2_with fail;go_meet
       exact⟨y+(-1022 - y),rfl,by omega,by omega,hX⟩
      ·have hlow2: -1022<=y:=by omega
       have hX:Hid (J4g w0 wc r b ng (-100000000) 60):=by
        obtain⟨a,cs,hO,hA,h0,h1,S0⟩:=hR.out
        exact hid ⟨a,cs,hO,hA,by omega,h1,S0⟩
       clear hR;go_wp2_with fail;go_meet
       exact⟨y,rfl,by omega,by omega,hX⟩
     case rest=>
      obtain⟨ex,rfl,hx0,hx1,hR⟩:=hcut
      clear i2;obtain⟨a,cs,hO,hA,h0,h1,S0⟩:=hR.out
      have W:=hA.at_.walk S0;have c2:=W.c2;have i0:=K4 S0 hI.out.c0;have i1:=K4 S0 hI.out.c1;have i2:=K4 S0 hI.out.c2;have hsh:=fun q=>hid (show Calls Tryz.prog 272 #[ptr b,.int .i64 53] (wc.drewN q) (J6t w0 r b (a.left 53) ng) from Jew hG.out hO hA 53 (by decide) (by decide) (by omega) (S0.drewN q))
      have hok:=(Jos hO (k:=53) (by decide) (by decide))
      have hde:=(J55 hO (k:=53) (by decide) (by decide)).2.2
      have hro:=fun (w':World) (cs':Array Value) (hA':J7n cs' (a.left 53) ng) (hS':J3 w0 [] w' ((b,J13 cs')::r))=>hid (Jkr hok.1 hA' hS' (by rw[hok.2.1];omega))
      have hS:=hid S0;replace hsh:=hid hsh;replace hro:=hid hro;clear hR hO hA h0 h1 S0 W hok hde;by_cases hov:1024<=ex
      ·go_wp2_with fail
       go_quiet (fail);go_wp2_with fail;go_step3
       refine Or.inr ⟨rfl,hJ1.out _ _ ?_⟩;clear hJ0 hJ1;go_wp2_with fail;go_quiet (fail);go_wp2_with fail;go_step3
       go_wp2_with fail;go_quiet (fail);cases ng with
       |true=>
        go_wp2_with fail;go_quiet (fail);go_wp2_with fail;try rw[Exit.noGoto_ret]
        try rw[J0z]
        go_ret2;exact⟨_,_,_,rfl,(K0 _ (.inr rfl) _ _).1,(K0 _ (.inr rfl) _ _).2,(by first|exact J3.drewN hS.out _|exact J3.drewN (J3.drewN hS.out _) _|exact J3.drewN (J3.drewN (J3.drewN hS.out _) _) _|exact hS.out)⟩
       |false=>
        go_wp2_with fail;try rw[Exit.noGoto_ret]
        try rw[J0z]
        go_ret2;exact⟨_,_,_,rfl,(K0 _ (.inr rfl) _ _).1,(K0 _ (.inr rfl) _ _).2,(by first|exact J3.drewN hS.out _|exact J3.drewN (J3.drewN hS.out _) _|exact J3.drewN (J3.drewN (J3.drewN hS.out _) _) _|exact hS.out)⟩
      ·go_wp2_with fail
       go_quiet (fail);go_wp2_with fail;with_reducible refine(hsh.out nq).out.mono ?_
       rintro e w' ⟨rfl,cs',hA',S'⟩;have hro2:=hro.out w' cs' hA' S';have c2:=(hA'.at_.walk S').c2;have i0:=K4 S' hI.out.c0;have i1:=K4 S' hI.out.c1;have i2:=K4 S' hI.out.c2;have hS':=hid S';clear hsh hro hA' S' hS;go_wp2_with fail;with_reducible refine hro2.out.mono ?_
       rintro e w9 ⟨m,rfl,hm0,hm1,rfl⟩;clear hro2;by_cases hm:m=9007199254740992
       ·subst hm
        by_cases hov2:1023<=ex
        ·go_wp2_with fail
         go_quiet (fail);go_wp2_with fail;go_step3
         refine Or.inr ⟨rfl,hJ1.out _ _ ?_⟩;clear hJ0 hJ1;go_wp2_with fail;go_quiet (fail);go_wp2_with fail;go_step3
         go_wp2_with fail;go_quiet (fail);cases ng with
         |true=>
          go_wp2_with fail;go_quiet (fail);go_wp2_with fail;try rw[Exit.noGoto_ret]
          try rw[J0z]
          go_ret2;exact⟨_,_,_,rfl,(K0 _ (.inr rfl) _ _).1,(K0 _ (.inr rfl) _ _).2,(by first|exact J3.drewN hS'.out _|exact J3.drewN (J3.drewN hS'.out _) _|exact J3.drewN (J3.drewN (J3.drewN hS'.out _) _) _|exact hS'.out)⟩
         |false=>
          go_wp2_with fail;try rw[Exit.noGoto_ret]
          try rw[J0z]
          go_ret2;exact⟨_,_,_,rfl,(K0 _ (.inr rfl) _ _).1,(K0 _ (.inr rfl) _ _).2,(by first|exact J3.drewN hS'.out _|exact J3.drewN (J3.drewN hS'.out _) _|exact J3.drewN (J3.drewN (J3.drewN hS'.out _) _) _|exact hS'.out)⟩
        ·go_wp2_with fail
         go_quiet (fail);go_wp2_with fail
         all_goals
          go_step3
          refine Or.inl ⟨rfl,hJ0.out _ _ ?_⟩;clear hJ0 hJ1;go_wp2_with fail;go_quiet (fail);cases ng with
          |true=>
           go_wp2_with fail;go_quiet (fail);go_wp2_with fail;try rw[Exit.noGoto_ret]
           try rw[J0z]
           go_ret2;exact⟨_,_,_,rfl,(K0 _ (.inr rfl) _ _).1,(K0 _ (.inr rfl) _ _).2,(by first|exact J3.drewN hS'.out _|exact J3.drewN (J3.drewN hS'.out _) _|exact J3.drewN (J3.drewN (J3.drewN hS'.out _) _) _|exact hS'.out)⟩
          |false=>
           go_wp2_with fail;try rw[Exit.noGoto_ret]
           try rw[J0z]
           go_ret2;exact⟨_,_,_,rfl,(K0 _ (.inr rfl) _ _).1,(K0 _ (.inr rfl) _ _).2,(by first|exact J3.drewN hS'.out _|exact J3.drewN (J3.drewN hS'.out _) _|exact J3.drewN (J3.drewN (J3.drewN hS'.out _) _) _|exact hS'.out)⟩
       ·have hmb:(m==9007199254740992)=false:=by simp;exact hm
        replace hm:=hid hm;go_wp2_with fail
        all_goals
         go_step3
         refine Or.inl ⟨rfl,hJ0.out _ _ ?_⟩;clear hJ0 hJ1;go_wp2_with fail;go_quiet (fail);cases ng with
         |true=>
          go_wp2_with fail;go_quiet (fail);go_wp2_with fail;try rw[Exit.noGoto_ret]
          try rw[J0z]
          go_ret2;exact⟨_,_,_,rfl,(K0 _ (.inr rfl) _ _).1,(K0 _ (.inr rfl) _ _).2,(by first|exact J3.drewN hS'.out _|exact J3.drewN (J3.drewN hS'.out _) _|exact J3.drewN (J3.drewN (J3.drewN hS'.out _) _) _|exact hS'.out)⟩
         |false=>
          go_wp2_with fail;try rw[Exit.noGoto_ret]
          try rw[J0z]
          go_ret2;exact⟨_,_,_,rfl,(K0 _ (.inr rfl) _ _).1,(K0 _ (.inr rfl) _ _).2,(by first|exact J3.drewN hS'.out _|exact J3.drewN (J3.drewN hS'.out _) _|exact J3.drewN (J3.drewN (J3.drewN hS'.out _) _) _|exact hS'.out)⟩
def scS (e p:Int):Int:= -(e+p*108853/32768+3)
def uq (x:Nat) (e p:Int):Nat:=usc x (J2r p) (J36 p) (scS e p).toNat
def J37 (m:Nat) (e p:Int) (mn mx odd:Nat):Nat×Int:=
 if(uq mn e p+odd+3)/4<=(uq mx e p - odd)/4/10*10 then((uq mx e p - odd)/4/10,-(p - 1))
 else if(uq mn e p+odd+3)/4<(uq mx e p - odd)/4 then((uq m e p+1+uq m e p/4%2)/4,-p)
 else((uq mn e p+odd+3)/4,-p)
def shA (m:Nat) (e:Int):Nat×Int:=J37 m e (-(((e+11)*631305 - 261663)/2097152)) (m - 512) (m+1024) (m/2048%2)
def shB (m:Nat) (e:Int):Nat×Int:=J37 m e (-((e+11)*78913/262144)) (m - 1024) (m+1024) (m/2048%2)
def shC (m:Nat) (e:Int):Nat×Int:=J37 m e 324 (m - 2 ^((-1074 - e).toNat - 1)) (m+2 ^((-1074 - e).toNat - 1)) (m/2 ^(-1074 - e).toNat%2)
def J38 (m:Nat) (e:Int):Nat×Int:=if m=2 ^63/\ -1085<e then shA m e else if -1085<=e then shB m e else shC m e
structure Jh2 (e p:Int):Prop where
 p0: -348<=p
 p1:p<=347
 s0:1<=scS e p
 s1:scS e p<=58
def Jux (e p:Int):Bool:=decide (-348<=p)&&decide (p<=347)&&decide (1<=scS e p)&&decide (scS e p<=58)
theorem Jx4 (h:Jux e p=true):Jh2 e p:=by
 simp only[Jux,Bool.and_eq_true,decide_eq_true_eq] at h;exact⟨h.1.1.1,h.1.1.2,h.1.2,h.2⟩
theorem Jeu (f:Int->Int) (lo:Int) (n:Nat) (h:(List.range n).all (fun i=>Jux ((i:Int)+lo) (f ((i:Int)+lo)))=true) (e:Int) (h0:lo<=e) (h1:e<lo+n):Jh2 e (f e):=by
 have:=List.all_eq_true.1 h (e - lo).toNat (by simp;omega)
 have he:(((e - lo).toNat:Nat):Int)+lo=e:=by omega
 rw[he] at this;exact Jx4 this
theorem scA (e:Int) (h0: -1085<=e) (h1:e<=960):Jh2 e (-(((e+11)*631305 - 261663)/2097152)):=
 Jeu (fun e=> -(((e+11)*631305 - 261663)/2097152)) (-1085) 2046 (by decide+kernel) e h0 (by omega)
theorem scB (e:Int) (h0: -1085<=e) (h1:e<=960):Jh2 e (-((e+11)*78913/262144)):=
 Jeu (fun e=> -((e+11)*78913/262144)) (-1085) 2046 (by decide+kernel) e h0 (by omega)
theorem scC (e:Int) (h0: -1137<=e) (h1:e< -1085):Jh2 e 324:=
 Jeu (fun _=>324) (-1137) 52 (by decide+kernel) e h0 (by omega)
theorem Jvm {hi lo s:Nat} (hx:x<2 ^64) (hhi:hi<2 ^64) (hs:1<=s):usc x hi lo s<2 ^63:=by
 have h1:x*hi/2 ^64<2 ^64:=by rw[Nat.div_lt_iff_lt_mul (by decide)];exact Nat.mul_lt_mul'' hx hhi
 have hp:2<=2 ^s:=by
  have:=Nat.pow_le_pow_right (show 0<2 by decide) hs
  simpa using this
 have hd:∀n,n<2 ^64->n/2 ^s<2 ^63:=fun n hn=>by
  rw[Nat.div_lt_iff_lt_mul (by omega)]
  have:2 ^63*2<=2 ^63*2 ^s:=Nat.mul_le_mul_left _ hp
  omega
 unfold usc;split
 ·exact Nat.or_lt_two_pow (hd _ h1) (by decide)
 ·exact Nat.or_lt_two_pow (hd _ (Nat.mod_lt _ (by decide))) (Nat.lt_of_le_of_lt (Joc _) (by decide))
theorem Jz6 {hi lo s:Nat} (hx:2 ^62<=x) (hx2:x<2 ^64) (hhi:2 ^63<=hi) (hhi2:hi<2 ^64) (hs:s<=58):7<=usc x hi lo s:=by
 have h1:2 ^61<=x*hi/2 ^64:=by
  rw[Nat.le_div_iff_mul_le (by decide)]
  exact Nat.le_trans (by decide) (Nat.mul_le_mul hx hhi)
 have h2:x*hi/2 ^64<2 ^64:=by rw[Nat.div_lt_iff_lt_mul (by decide)];exact Nat.mul_lt_mul'' hx2 hhi2
 have hd:∀n,2 ^61 - 1<=n->7<=n/2 ^s:=fun n hn=>by
  rw[Nat.le_div_iff_mul_le (Nat.pow_pos (by decide))]
  have:7*2 ^s<=7*2 ^58:=Nat.mul_le_mul_left _ (Nat.pow_le_pow_right (by decide) hs)
  omega
 unfold usc;have hb:=Joc (decide (x*hi%2 ^64<x*lo/2 ^64));split
 ·exact Nat.le_trans (hd _ (by omega)) Nat.left_le_or
 ·refine Nat.le_trans (hd _ ?_) Nat.left_le_or
  generalize x*hi/2 ^64=h at *;generalize b2 _=b at *;omega
theorem J0g (hx:2 ^62<=x) (hx2:x<2 ^64) (h:Jh2 e p):7<=uq x e p/\uq x e p<2 ^63:=by
 have hp:p=(((p+348).toNat:Nat):Int) - 348:=by have:=h.p0;omega
 have hb:=Jbf (i:=(p+348).toNat) (by have:=h.p1;have:=h.p0;omega)
 rw[<-hp] at hb;have:=h.s0
 have:=h.s1
 exact⟨Jz6 hx hx2 hb.1 hb.2.1 (by omega),Jvm hx2 hb.2.1 (by omega)⟩
theorem J9z {m:Nat} {mn mx odd:Nat} (h:Jh2 e p) (hm:2 ^63<=m) (hm2:m<2 ^64) (h1:2 ^62<=mn) (h2:mn<2 ^64) (h3:2 ^62<=mx) (h4:mx<2 ^64) (ho:odd<=1):1<=(J37 m e p mn mx odd).1/\(J37 m e p mn mx odd).1<2 ^63:=by
 have a:=J0g (by omega) hm2 h
 have b:=J0g h1 h2 h;have c:=J0g h3 h4 h;unfold J37;generalize uq m e p=u at *;generalize uq mn e p=v at *;generalize uq mx e p=t at *;split
 ·simp only;omega
 ·split<;>(simp only;omega)
end Go.Proofs.YtncbcaabanoeoaaGreatDoor
