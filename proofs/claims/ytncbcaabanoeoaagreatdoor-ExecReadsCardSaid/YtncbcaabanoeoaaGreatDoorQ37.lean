/-
table.Clear, recent.Clear, expiry.Clear: all are gone. (For a seat of exec.)
-/
import Derived.Test.YtncbcaabanoeoaaGreatDoorQ19
import Derived.Test.YtncbcaabanoeoaaGreatDoorQ26
set_option linter.unusedVariables false
set_option linter.unusedSimpArgs false
set_option maxRecDepth 100000
set_option maxHeartbeats 8000000
namespace Go.Proofs.YtncbcaabanoeoaaGreatDoor
open Go Go.RowKit
variable {l:Hp}{b:Nat}{w:World}
theorem Jnm (o:Option Nat) (n:Nat):∃a k c,Jcw o n= .slice a k c:=by
 cases o<;>exact⟨_,_,_,rfl⟩
theorem K0a (o0 o1 o2 o3 o4 o5 o6 o7 v0 v1 v2 v3 v4 v5 v6 v7:Value):((((((((#[o0,o1,o2,o3,o4,o5,o6,o7]:Array Value).setIfInBounds 0 v0).setIfInBounds 1 v1).setIfInBounds 2 v2).setIfInBounds 3 v3).setIfInBounds 4 v4).setIfInBounds 5 v5).setIfInBounds 6 v6).setIfInBounds 7 v7= #[v0,v1,v2,v3,v4,v5,v6,v7]:=by kernel_rfl
theorem Jnv {M:KV} {c:Nat} (hT:K5 l b M c) (ho:Own w l):
 Calls Tryz.prog 114 #[ptr b] w fun e w'=>e= .returned (.tuple #[])/\∃l',K5 l' b [] 0/\J3 w l w' l':=by
 obtain⟨T,po,pf,_,_,rfl⟩:=hT
 have hnew:=hid (Jlk w);have hR:=hid (J3.refl ho);clear ho;go_enter Tryz.func114,Tryz.ntmps114;go_wp2_with fail;refine hnew.out.mono ?_;rintro e w1 ⟨nb,l',rfl,⟨T',po',pf',hok,hmv,rfl⟩,S1⟩;obtain⟨sa,sn,sc,hsl⟩:=Jnm pf' T'.fresh.ps.length
 have S2:=(hR.out.born S1).permR (l2:=(b,J2i po pf T)::(nb,J2i po' pf' T')::((po',J2e T'.old.ps)::J5s pf' T'++((po,J2e T.old.ps)::J5s pf T))) (J5 fun f=>by
  unfold J08;simp only[List.map_append,List.sum_append,List.map_cons,List.sum_cons,List.cons_append];omega)
 obtain⟨s0,s1,s2,s3,s4,s5,s6,s7,_,_⟩:=J0a S2.own.tail.head
 rw[hsl] at s3;obtain⟨d0,d1,d2,d3,d4,d5,d6,d7,fz,hlt⟩:=J0a S2.own.head
 have S3:=(((((((S2.set 0 (.slice (some ⟨po',0,none⟩) T'.old.ps.length T'.old.ps.length)).set 1 (.int .i64 T'.old.fl)).set 2 (.int .i64 T'.old.gr)).set 3 (.slice sa sn sc)).set 4 (.int .i64 T'.fresh.fl)).set 5 (.int .i64 T'.fresh.gr)).set 6 (.bool T'.moving)).set 7 (.int .i64 T'.next);unfold J0x at S3;rw[K0a] at S3;rw[<-hsl] at S3;replace S3:J3 w (J08 b po pf T) _ ((b,J2i po' pf' T')::_):=S3
 have S4:=hid (S3.pick (l2:=J08 b po' pf' T') (m:=(nb,J2i po' pf' T')::((po,J2e T.old.ps)::J5s pf T)) (J5 fun f=>by
  unfold J08;simp only[List.map_append,List.sum_append,List.map_cons,List.sum_cons,List.cons_append];omega))
 rw[hsl] at S4;have hfin:Hid (K5 (J08 b po' pf' T') b [] 0):=hid ⟨T',po',pf',hok,hmv,rfl⟩;replace hsl:=hid hsl;clear hnew hR S1 S2 S3 hok hmv;go_wp2_with fail;go_end0
 exact⟨rfl,_,hfin.out,S4.out⟩
theorem Jmb {D:AL Int} (hX:Kq l b D) (ho:Own w l):
 Calls Tryz.prog 115 #[ptr b] w fun e w'=>e= .returned (.tuple #[])/\∃l',Kq l' b []/\J3 w l w' l':=by
 obtain⟨mb,o,rv,sl,es,m,rfl,_,_,_,_,_⟩:=hX
 have hnew:=hid (Jjd w);have hR:=hid (J3.refl ho);clear ho;go_enter Tryz.func115,Tryz.ntmps115;go_wp2_with fail;refine hnew.out.mono ?_;rintro e w1 ⟨nb,l',rfl,⟨mb',o',rv',sl',es',m',rfl,hat',h1,h2,h3,h4⟩,S1⟩;have hes:es'=[]:=List.map_eq_nil_iff.1 (List.Perm.eq_nil h3.symm);subst hes;obtain⟨ra,rc,rfl,_,_⟩:=hat'.sl.form
 have S2:=(hR.out.born S1).permR (l2:=(b,J27 rv mb)::(nb,J27 (.slice ra 0 rc) mb')::(sl'++[(mb',o')]++(sl++J02 0 es++[(mb,o)]))) (J5 fun f=>by
  unfold J21 K9;simp only[J02,List.map_append,List.sum_append,List.map_cons,List.sum_cons,List.cons_append,List.map_nil,List.sum_nil,List.length_nil];omega)
 have hs:=S2.own.tail.head;have hd:=S2.own.head;have s0:w1.cell? ⟨nb,0,none⟩=some (.slice ra 0 rc):=J2 hs 0;have s1:w1.cell? ⟨nb,1,none⟩=some (.map (some mb')):=J2 hs 1;have d0:w1.cell? ⟨b,0,none⟩=some rv:=J2 hd 0;have d1:w1.cell? ⟨b,1,none⟩=some (.map (some mb)):=J2 hd 1;have fz:∀j,w1.frozen? ⟨b,j,none⟩=false:=fun j=>Jg hd j
 have hlt:=Jf hd;have S3:J3 w (J21 b mb rv sl es o) _ ((b,J27 (.slice ra 0 rc) mb')::_):=(S2.set 0 (.slice ra 0 rc)).set 1 (.map (some mb'))
 have S4:=hid (S3.pick (l2:=J21 b mb' (.slice ra 0 rc) sl' [] o') (m:=(nb,J27 (.slice ra 0 rc) mb')::(sl++J02 0 es++[(mb,o)])) (J5 fun f=>by
  unfold J21 K9;simp only[J02,List.map_append,List.sum_append,List.map_cons,List.sum_cons,List.cons_append,List.map_nil,List.sum_nil];omega))
 have hfin:Hid (Kq (J21 b mb' (.slice ra 0 rc) sl' [] o') b []):=hid ⟨mb',o',_,sl',[],m',rfl,hat',h1,h2,h3,h4⟩;clear hnew hR S1 S2 S3 hs hd hat' h1 h2 h3 h4;go_wp2_with fail;go_end0
 exact⟨rfl,_,hfin.out,S4.out⟩
theorem Jrj {ks:List ByteArray} (hX:Ko l b ks) (ho:Own w l):
 Calls Tryz.prog 34 #[ptr b] w fun e w'=>e= .returned (.tuple #[])/\∃l',Ko l' b []/\J3 w l w' l':=by
 obtain⟨mb,o,ns,m,rfl,_,_,_,_⟩:=hX
 exact Jen b _ _ _ _ w w ((J3.refl ho).less (List.Sublist.cons_cons _ (List.nil_sublist _)))
def St.flush (S:St):St:=⟨[],[],S.ev++[(5,ByteArray.empty)],S.bud⟩
theorem Fit.none {S:St} (hf:Fit S) (ev:List (Int×ByteArray)):Fit ⟨[],[],ev,S.bud⟩:=
 ⟨List.nodup_nil,fun k hk=>by simp at hk,List.nodup_nil,fun p hp=>by simp at hp,hf.bud,Nat.zero_le _⟩
theorem SM.bare {w0:World} {r:Hp} {sb n bud:Nat} {m:SM} (h:J3 w0 [] w (m.hp sb n bud++r)):
 J3 w0 [] (((w.setCell ⟨sb,1,none⟩ (.slice none 0 0)).setCell ⟨sb,2,none⟩ (.slice none 0 0)).setCell ⟨sb,5,none⟩ (.int .i64 0)) ({m with sv:=.slice none 0 0,fv:=.slice none 0 0,shp:=[],fhp:=[],ss:=[],cs:=[],fr:=[]}.hp sb 0 bud++r):=by
 have h1:J3 w0 [] w ((sb,J1i m n bud)::(m.rest++r)):=h;have h2:=((h1.set 1 (.slice none 0 0)).set 2 (.slice none 0 0)).set 5 (.int .i64 0);refine h2.pick (m:=m.shp++(m.fhp++J06 m.ss)) (J5 fun f=>?_)
 rw[List.map_append,List.sum_append,J1d];simp only[SM.rest,List.map_append,List.sum_append,List.map_cons,List.sum_cons,J06,List.flatMap_nil,List.map_nil,List.sum_nil];show f (sb,J1i {m with sv:=.slice none 0 0,fv:=.slice none 0 0,shp:=[],fhp:=[],ss:=[],cs:=[],fr:=[]} 0 bud)+_=_
 omega
theorem Jq9 {w0:World} {r:Hp} {sb:Nat} {S:St} (hS:J3 w0 [] w (l++r)) (hX:Jh l sb S) (hev:S.ev.length<=4398046511104):
 Calls Tryz.prog 62 #[ptr sb] w (Jp w0 r sb S.flush (.tuple #[])):=by
 obtain⟨m,rfl,hok,hf⟩:=hX
 have c0:=(K1 hS.own).c0;have htc:=hid (Jnv hok.tab (SM.ownT hS.own));replace hS:=hid hS;have hev2:Hid (S.ev.length<=4398046511104):=hid hev;clear hev;go_enter Tryz.func62,Tryz.ntmps62;go_wp2_with fail;refine htc.out.mono ?_;rintro e w1 ⟨rfl,tl',hT,ST⟩;have S1:=SM.stepT (M':=[]) hS.out ST;generalize hm1:({m with tl:=tl',M:=[]}:SM)=m1 at S1
 have ht1:K5 m1.tl m1.tb [] 0:=by rw[<-hm1];exact hT
 have hr1:Ko m1.rl m1.rb (m.cs.map J1l.key):=by rw[<-hm1];exact hok.rcn
 have hx1:Kq m1.xl m1.xb S.D:=by rw[<-hm1];exact hok.exp
 have hv1:SliceHp 2 41 m1.vv S.ev.length (J1g S.ev) m1.vhp:=by rw[<-hm1];exact hok.evs
 have hM1:m1.M=[]:=by rw[<-hm1]
 obtain⟨c0',c1,c2,c3,c4,c5,c6,c7,fz⟩:=K1 S1.own
 have hlt:=Jf S1.own.left.head;have S2:=SM.bare S1;obtain⟨m2,hm2⟩:∃m2:SM,m2={m1 with sv:=.slice none 0 0,fv:=.slice none 0 0,shp:=[],fhp:=[],ss:=[],cs:=[],fr:=[]}:=⟨_,rfl⟩
 rw[<-hm2] at S2;replace ht1:K5 m2.tl m2.tb [] 0:=by rw[hm2];exact ht1
 replace hr1:Ko m2.rl m2.rb (m.cs.map J1l.key):=by rw[hm2];exact hr1
 replace hx1:Kq m2.xl m2.xb S.D:=by rw[hm2];exact hx1
 replace hv1:SliceHp 2 41 m2.vv S.ev.length (J1g S.ev) m2.vhp:=by rw[hm2];exact hv1
 have hrest:Hid (m2.sv= .slice none 0 0/\m2.fv= .slice none 0 0/\m2.shp=[]/\m2.fhp=[]/\m2.ss=[]/\m2.cs=[]/\m2.fr=[]/\m2.M=[]):=hid (by rw[hm2];exact⟨rfl,rfl,rfl,rfl,rfl,rfl,rfl,hM1⟩)
 clear hm1 htc hS hT ST c0 S1 hm2 hM1;replace S2:=hid S2;replace ht1:=hid ht1;replace hr1:=hid hr1;replace hx1:=hid hx1;replace hv1:=hid hv1;go_upto_region 2 with fail;clear c0' c1 c2 c3 c4 c5 c6 c7 fz hlt;generalize hw2:((w1.setCell _ _).setCell _ _).setCell _ _=w2;replace S2:J3 w0 [] w2 _:=hw2▸S2.out;clear hw2;have c3:=(K1 S2.own).c3;have hcl:=hid (Jrj hr1.out (SM.ownR S2.own));replace S2:=hid S2;go_wp2_with fail;refine hcl.out.mono ?_;rintro e w3 ⟨rfl,rl',hR,ST⟩;have S3:=SM.stepR S2.out ST;have c4:=(K1 S3.own).c4;have hcx:=hid (Jmb hx1.out (SM.ownX (m:={m2 with rl:=rl'}) S3.own))
 replace S3:=hid S3;replace hR:=hid hR;clear hcl ST S2 c3;go_wp2_with fail;refine hcx.out.mono ?_;rintro e w4 ⟨rfl,xl',hE,ST⟩;have S4:=SM.stepX S3.out ST;have htl:=hid (Jlh S4 hv1.out hev2.out 5 ByteArray.empty);replace hE:=hid hE;clear hcx ST S3 S4 c4;go_wp2_with fail;refine htl.out.mono ?_;rintro e w5 ⟨rfl,vv',vhp',hv2,S5⟩;replace S5:=hid S5;replace hv2:=hid hv2;clear htl;go_wp2_with fail;go_end0
 obtain⟨q1,q2,q3,q4,q5,q6,q7,q8⟩:=hrest.out
 refine⟨rfl,_,⟨{m2 with rl:=rl',xl:=xl',vv:=vv',vhp:=vhp'},rfl,⟨?_,?_,?_,?_,?_,?_,?_,?_,?_,?_,?_,?_⟩,hf.none _⟩,S5.out⟩
 ·show K5 m2.tl m2.tb m2.M 0
  rw[q8];exact ht1.out
 ·show Ko rl' m2.rb (m2.cs.map J1l.key)
  rw[q6];exact hR.out
 ·exact hE.out
 ·show SliceHp 3 _ m2.sv m2.ss.length (Jr m2.ss) m2.shp
  rw[q1,q3,q5];exact .nil
 ·show SliceHp 1 _ m2.fv m2.fr.length (J1p m2.fr) m2.fhp
  rw[q2,q4,q7];exact .nil
 ·exact hv2.out
 ·show([]:AL Itm)=m2.cs.map _
  rw[q6];rfl
 ·show m2.M.Perm (m2.cs.map _)
  rw[q6,q8];exact List.Perm.refl _
 ·show ∀c∈m2.cs,_
  rw[q6];intro c hc;cases hc
 ·show(m2.fr++m2.cs.map J1l.at_).Perm (List.range m2.ss.length)
  rw[q5,q6,q7];exact List.Perm.refl _
 ·show ∀s∈m2.ss,_
  rw[q5];intro s hs;cases hs
 ·show m2.ss.length<=_
  rw[q5];exact Nat.zero_le _
end Go.Proofs.YtncbcaabanoeoaaGreatDoor
namespace Go.Proofs.YtncbcaabanoeoaaGreatDoor
open Go
variable {k s:ByteArray}{S:St}
def one (k:ByteArray) (it:Itm) (D:AL Int) (ev:List (Int×ByteArray)) (bud:Nat):St:=⟨[(k,it)],D,ev,bud⟩
theorem Jgc {it:Itm} {D:AL Int} {ev:List (Int×ByteArray)} {bud:Nat} (h:J24 k it<=bud):Kx (one k it D ev bud):=by
 simp only[Kx,one,Jd,List.map_cons,List.map_nil,List.sum_cons,List.sum_nil];omega
theorem Jq3 {n:Nat} (h:Kx S):S.evict n k=S:=by
 cases n with
 |zero=>rfl
 |succ n=>
  unfold Kx at h;unfold St.evict;rw[if_neg (by omega)]
theorem Jyp {it:Itm} {ev:List (Int×ByteArray)} {bud:Nat} {now:Int} (hc:J24 k it<=bud) (keep:Bool):
 (⟨[],[],ev,bud⟩:St).put k it keep now=one k it [] (ev++[(1,k)]) bud:=by
 have e0:(⟨[],[],ev,bud⟩:St).due k now=⟨[],[],ev,bud⟩:=rfl
 have e:(⟨[],[],ev,bud⟩:St).lay k it keep=one k it [] (ev++[(1,k)]) bud:=by
  cases keep<;>rfl
 rw[St.put,e0,e,Jq3 (Jgc hc)]
theorem Jri (hk:k.size<=512) (hs:s.size<=4096) (hc:J24 k (Ji s)<=S.bud):S.putE k (Ji s)=0:=by
 have h1:¬(512<k.size\/((Ji s).kind=1/\4096<(Ji s).text.size)):=by
  rintro (h|⟨_,h⟩)
  ·omega
  ·have:(Ji s).text=s:=rfl
   rw[this] at h;omega
 rw[St.putE,if_neg h1,if_neg (by omega)]
theorem Jsk {k s:ByteArray}:J24 k (Ji s)<=48+k.size+max 8 s.size:=by
 have e:J24 k (Ji s)=48+k.size+(if(J2f s).isSome then 8 else s.size):=rfl
 rw[e];split<;>omega
theorem Jlc {now:Int}:Jaq S now k s []=if(S.due k now).putE k (Ji s)=0 then((S.due k now).putG k (Ji s) false now,J44) else((S.due k now).putG k (Ji s) false now,Kt ((S.due k now).putE k (Ji s))):=rfl
abbrev kk:ByteArray:=⟨#[107]⟩
theorem Joq:kk.size=1:=rfl
theorem Jhc (h:s.size<=4096):J24 kk (Ji s)<=4145:=by
 have:=@Jsk kk s
 rw[Joq] at this;omega
def txt (s:ByteArray) (ev:List (Int×ByteArray)) (bud:Nat):St:=one kk (Ji s) [] ev bud
theorem Jwt {b:Int} {bud:Nat} (hb:J6k b=⟨[],[],[],bud⟩) (hb2:4145<=bud) (h:s.size<=4096) (now:Int):Jaq (J6k b) now kk s []=(txt s [(1,kk)] bud,J44):=by
 have e0:(⟨[],[],[],bud⟩:St).due kk now=⟨[],[],[],bud⟩:=rfl;have e1:(⟨[],[],[],bud⟩:St).putE kk (Ji s)=0:=Jri (by rw[Joq];omega) h (Nat.le_trans (Jhc h) hb2)
 rw[hb,Jlc,e0,if_pos e1,St.putG,if_pos e1,Jyp (Nat.le_trans (Jhc h) hb2)];rfl
end Go.Proofs.YtncbcaabanoeoaaGreatDoor
namespace Go.Proofs.YtncbcaabanoeoaaGreatDoor
open Go Go.RowKit
variable {w0 w:World}{r:Hp}
def Jrt (n:Int):Int:=if 0<n then(n - 1)/1000+1 else n
def lfYes (b:Bool):Lf:=Jm (if b then 1 else 0)
theorem Jpg (hS:J3 w0 [] w r) (b:Bool):
 Calls Tryz.prog 57 #[.bool b] w (Kr w0 r (Ja (lfYes b))):=by
 have S1:=hS.alloc J4;have hint:=fun n=>hid (J15 S1 n)
 clear hS S1;cases b
 all_goals
  go_enter Tryz.func57,Tryz.ntmps57;go_wp2_with fail;refine(hint _).out.mono ?_
  rintro e w1 ⟨rfl,S2⟩;generalize w.heap.size=b at S2⊢;obtain⟨⟨c0,hc0⟩,⟨c1,hc1⟩,⟨c2,hc2⟩,⟨c3,hc3⟩,⟨c4,hc4⟩,⟨c5,hc5⟩,fz,hlt⟩:=J0d S2.own
  clear hint;unfold J7
 ·have S3:=hid (S2.setLf (Jm 0))
  clear S2;go_wp2_with fail;refine bodyPost_ret (v:=Ja (lfYes false)) (by simp[results,Tryz.results57,go_sem,J7,Ja,lfYes,Jm, *]<;>rfl) rfl ?_
  exact⟨rfl,S3.out⟩
 ·have S3:=hid (S2.setLf (Jm 1))
  clear S2;go_wp2_with fail;refine bodyPost_ret (v:=Ja (lfYes true)) (by simp[results,Tryz.results57,go_sem,J7,Ja,lfYes,Jm, *]<;>rfl) rfl ?_
  exact⟨rfl,S3.out⟩
def J3h (p:Sp×ByteArray):Bool:=decide (p.2=ByteArray.empty)&&(decide (p.1.kind=1)||decide (p.1.kind=2))
theorem Jaz {b:ByteArray}:b.toList=[] ↔ b=ByteArray.empty:=by
 rw[ByteArray.toList_eq];constructor
 ·intro h;cases b;simp only[Array.toList_eq_nil_iff] at h;subst h;rfl
 ·rintro rfl;rfl
theorem Jop (hS:J3 w0 [] w r) {g off:Nat} {c:ByteArray} {ws:List ByteArray} (hA:J2h w0 r g off (c::ws)) (cap:Nat):
 Calls Tryz.prog 23 #[.slice (some ⟨g,off,none⟩) (c::ws).length cap] w (fun e w'=>e= .returned (.bool (J3h (Ku (c::ws))))/\J3 w0 [] w' r):=by
 have hchk:=J3g hS hA cap;generalize Ku (c::ws)=T at hchk⊢;obtain⟨sp,wrong⟩:=T
 unfold J1c Sp.val K8 at hchk;simp only at hchk
 generalize (c::ws).length=n at hchk⊢;replace hchk:=hid hchk;clear hS hA;by_cases hw:wrong=ByteArray.empty
 ·subst hw
  by_cases h1:sp.kind=1
  ·have hres:Hid (J3h (sp,ByteArray.empty)=true):=hid (by simp[J3h,h1])
   have hb1:(sp.kind==1)=true:=by simpa using h1
   clear h1;go_enter Tryz.func23,Tryz.ntmps23;go_wp2_with fail;refine hchk.out.mono ?_;rintro e w1 ⟨rfl,S1⟩;clear hchk;have S2:=hid (S1.alloc (.cells #[.string sp.name,.int .i64 sp.kind,.int .i64 sp.least,.int .i64 sp.most,.int .i64 sp.first,.int .i64 sp.last,.int .i64 sp.step] 45));clear S1;go_wp2_with fail;go_ret;rw[hres.out];exact⟨rfl,S2.out.less (List.sublist_cons_self _ _)⟩
  ·have hb1:(sp.kind==1)=false:=by simpa using h1
   by_cases h2:sp.kind=2
   ·have hres:Hid (J3h (sp,ByteArray.empty)=true):=hid (by simp[J3h,h2])
    have hb2:(sp.kind==2)=true:=by simpa using h2
    clear h1 h2;go_enter Tryz.func23,Tryz.ntmps23;go_wp2_with fail;refine hchk.out.mono ?_;rintro e w1 ⟨rfl,S1⟩;clear hchk;have S2:=hid (S1.alloc (.cells #[.string sp.name,.int .i64 sp.kind,.int .i64 sp.least,.int .i64 sp.most,.int .i64 sp.first,.int .i64 sp.last,.int .i64 sp.step] 45));clear S1;go_wp2_with fail;go_ret;rw[hres.out];exact⟨rfl,S2.out.less (List.sublist_cons_self _ _)⟩
   ·have hres:Hid (J3h (sp,ByteArray.empty)=false):=hid (by simp[J3h,h1,h2])
    have hb2:(sp.kind==2)=false:=by simpa using h2
    clear h1 h2;go_enter Tryz.func23,Tryz.ntmps23;go_wp2_with fail;refine hchk.out.mono ?_;rintro e w1 ⟨rfl,S1⟩;clear hchk;have S2:=hid (S1.alloc (.cells #[.string sp.name,.int .i64 sp.kind,.int .i64 sp.least,.int .i64 sp.most,.int .i64 sp.first,.int .i64 sp.last,.int .i64 sp.step] 45));clear S1;go_wp2_with fail;go_ret;rw[hres.out];exact⟨rfl,S2.out.less (List.sublist_cons_self _ _)⟩
 ·have hres:Hid (J3h (sp,wrong)=false):=hid (by simp[J3h,hw])
  have hw1:¬wrong.toList=[]:=fun h=>hw (Jaz.1 h)
  have hw2:wrong.toList.isEmpty=false:=by simpa using hw1
  clear hw;go_enter Tryz.func23,Tryz.ntmps23;go_wp2_with fail;refine hchk.out.mono ?_;rintro e w1 ⟨rfl,S1⟩;clear hchk;have S2:=hid (S1.alloc (.cells #[.string sp.name,.int .i64 sp.kind,.int .i64 sp.least,.int .i64 sp.most,.int .i64 sp.first,.int .i64 sp.last,.int .i64 sp.step] 45));clear S1;go_wp2_with fail;go_ret;rw[hres.out];exact⟨rfl,S2.out.less (List.sublist_cons_self _ _)⟩
def J0f (S:St) (now:Int) (key text:ByteArray) (unit:Int):St×Lf:=
 match J2f text with
 |none=>(S,Kt 11)
 |some n=>if 0<=n then(if(J01 now n unit).2=0 then((S.due key now).expire key (J01 now n unit).1 now,lfYes (Je (S.due key now).L key).isSome) else(S,Kt (J01 now n unit).2))
  else((S.due key now).expire key now now,lfYes (Je (S.due key now).L key).isSome)
theorem Jc3 {l:Hp} {sb:Nat} {S:St} (hS:J3 w0 [] w (l++r)) (hG:J17 w0) (hX:Jh l sb S) (hev:S.ev.length<=1099511627776) (key text:ByteArray) (hk:key.size<=1099511627776) (ht:text.size<=1099511627776) (now unit:Int) (hnow:0<=now/\now<=4611686018427387904) (hu:unit=1\/unit=1000):
 Calls Tryz.prog 56 #[ptr sb,.int .i64 now,.string key,.string text,.int .i64 unit] w (Jp w0 r sb (J0f S now key text unit).1 (Ja (J0f S now key text unit).2)):=by
 have S0:=hS.alloc J4;have hparse:=hid (J2u S0 hG text ht);obtain⟨B,hB⟩:∃B,B=w.heap.size:=⟨_,rfl⟩
 have herr:∀(w':World) (c:Int),Hid (K2 c)->Hid (Calls _ _ _ w' _):=fun w' c h=>hid (Jf8 w' c h.out)
 have hfl:∀(w':World) (c:Int),Hid (J3 w0 [] w' ((B,J4)::(l++r)))->Hid (Calls _ _ _ w' _):=fun w' c hS'=>hid (J4z hS'.out (Jx c))
 have hexp:∀(w':World) (t:Int),t<=9223372036854775807->Hid (J3 w0 [] w' ((B,J4)::(l++r)))->Hid (Calls _ _ _ w' _):=fun w' t ht hS'=>
  hid (Jdz (r:=(B,J4)::r) (hS'.out.permR (J5 fun f=>by simp only[SC];omega)) hG hX (by omega) key hk t now hnow.1 ht)
 have hyes:∀(w':World) (b:Bool) (l':Hp),Hid (J3 w0 [] w' (l'++((B,J4)::r)))->Hid (Calls _ _ _ w' _):=fun w' b l' hS'=>hid (Jpg (hS'.out.permR (l2:=(B,J4)::(l'++r)) (J5 fun f=>by simp only[SC];omega)) b)
 have hX0:=hid hX;have hw0:Hid (w.heap.size=B):=hid hB.symm;rw[<-hB] at hparse;clear S0 hS hX hB hG hev hk;cases hp:J2f text with
 |none=>
  have hres:Hid (J0f S now key text unit=(S,Kt 11)):=hid (by simp[J0f,hp])
  rw[hp] at hparse;simp only[J5w,Option.isSome_none,Option.getD_none,Bool.false_eq_true,if_false] at hparse;replace hnow:=hid hnow;replace hu:=hid hu;have h3:=fun w'=>herr w' 11 (hid (.inl rfl))
  have h2:=fun w'=>hfl w' 11
  unfold Kt at hres;generalize Jx 11=te at h2 h3 hres;clear hp hexp hyes hfl herr;go_enter Tryz.func56,Tryz.ntmps56;go_wp2_with fail;rw[hw0.out];refine hparse.out.mono ?_;rintro e w1 ⟨rfl,S1⟩;replace h2:=h2 w1 (hid S1);replace h3:=h3 w1;clear hparse S1;go_wp2_with fail;refine h3.out.mono ?_;rintro e w2 ⟨rfl,rfl⟩;go_wp2_with fail;refine h2.out.mono ?_;rintro e w2 ⟨rfl,S2⟩;obtain⟨⟨c0,hc0⟩,⟨c1,hc1⟩,⟨c2,hc2⟩,⟨c3,hc3⟩,⟨c4,hc4⟩,⟨c5,hc5⟩,fz,hlt⟩:=J0d S2.own
  have S3:=hid (S2.setLf ⟨2,te,0⟩);clear S2 h2 h3;unfold J7;go_wp2_with fail;refine bodyPost_ret (v:=Ja ⟨2,te,0⟩) (by simp[results,Tryz.results56,go_sem,J7,Ja, *]<;>rfl) rfl ?_
  rw[hres.out];exact⟨rfl,l,hX0.out,S3.out⟩
 |some n=>
  obtain⟨hn1,hn2⟩:=J3q hp
  rw[hp] at hparse;simp only[J5w,Option.isSome_some,Option.getD_some,if_true] at hparse;obtain⟨hnow1,hnow2⟩:=hnow
  by_cases hn:0<=n
  ·have hwhen:∀w':World,Hid (Calls Tryz.prog 110 #[.int .i64 now,.int .i64 n,.int .i64 unit] w' fun e w''=>e= .returned (.tuple #[.int .i64 (J01 now n unit).1,.int .i64 (J01 now n unit).2])/\w'=w''):=fun w'=>hid (by
    rcases hu with rfl|rfl
    ·exact Jvs now n w' ⟨by omega,by omega⟩ ⟨hn1,hn2⟩
    ·exact Jgt now n w' ⟨by omega,by omega⟩ ⟨hn1,hn2⟩)
   have hkn:=Jar now n unit;have hle:=Jgs now n unit;have hres:J0f S now key text unit=if(J01 now n unit).2=0 then((S.due key now).expire key (J01 now n unit).1 now,lfYes (Je (S.due key now).L key).isSome) else(S,Kt (J01 now n unit).2):=by simp[J0f,hp,hn]
   generalize J01 now n unit=T at hwhen hkn hle hres;obtain⟨t,c⟩:=T
   simp only at hwhen hkn hle hres
   replace hu:=hid hu;clear hp;rcases hkn with rfl|rfl
   ·rw[if_pos rfl] at hres
    replace hres:=hid hres;go_enter Tryz.func56,Tryz.ntmps56;go_wp2_with fail;rw[hw0.out];refine hparse.out.mono ?_;rintro e w1 ⟨rfl,S1⟩;go_wp2_with fail;refine(hwhen _).out.mono ?_
    rintro e w2 ⟨rfl,rfl⟩;clear hwhen;have h2:=hexp w1 t (by omega) (hid S1)
    clear hparse S1 hfl herr hexp;go_wp2_with fail;refine h2.out.mono ?_;rintro e w2 ⟨rfl,l2,hX2,S2⟩;have h3:=hyes w2 (Je (S.due key now).L key).isSome l2 (hid S2);clear h2 hyes;obtain⟨bb,hbb⟩:∃bb,bb=(Je (S.due key now).L key).isSome:=⟨_,rfl⟩
    rw[<-hbb] at hres h3⊢;clear hbb S2;replace hX2:=hid hX2;go_wp2_with fail;refine h3.out.mono ?_;rintro e w3 ⟨rfl,S3⟩;obtain⟨⟨c0,hc0⟩,⟨c1,hc1⟩,⟨c2,hc2⟩,⟨c3,hc3⟩,⟨c4,hc4⟩,⟨c5,hc5⟩,fz,hlt⟩:=J0d S3.own
    have S4:=hid (S3.setLf (lfYes bb));clear S3 h3;unfold Ja J7;go_wp2_with fail;refine bodyPost_ret (v:=Ja (lfYes bb)) (by simp[results,Tryz.results56,go_sem,J7,Ja,lfYes,Jm, *]<;>rfl) rfl ?_
    rw[hres.out];exact⟨rfl,l2,hX2.out,S4.out⟩
   ·rw[if_neg (by decide)] at hres
    replace hres:=hid hres;have h3:=fun w'=>herr w' 111 (hid (.inr (.inr (.inl rfl))))
    have h2:=fun w'=>hfl w' 111
    unfold Kt at hres;generalize Jx 111=te at h2 h3 hres;clear hexp hyes hfl herr;go_enter Tryz.func56,Tryz.ntmps56;go_wp2_with fail;rw[hw0.out];refine hparse.out.mono ?_;rintro e w1 ⟨rfl,S1⟩;go_wp2_with fail;refine(hwhen _).out.mono ?_
    rintro e w2 ⟨rfl,rfl⟩;clear hwhen;replace h2:=h2 w1 (hid S1);replace h3:=h3 w1;clear hparse S1;go_wp2_with fail;refine h3.out.mono ?_;rintro e w2 ⟨rfl,rfl⟩;go_wp2_with fail;refine h2.out.mono ?_;rintro e w2 ⟨rfl,S2⟩;obtain⟨⟨c0,hc0⟩,⟨c1,hc1⟩,⟨c2,hc2⟩,⟨c3,hc3⟩,⟨c4,hc4⟩,⟨c5,hc5⟩,fz,hlt⟩:=J0d S2.own
    have S3:=hid (S2.setLf ⟨2,te,0⟩);clear S2 h2 h3;unfold J7;go_wp2_with fail;refine bodyPost_ret (v:=Ja ⟨2,te,0⟩) (by simp[results,Tryz.results56,go_sem,J7,Ja, *]<;>rfl) rfl ?_
    rw[hres.out];exact⟨rfl,l,hX0.out,S3.out⟩
  ·have hres:Hid (J0f S now key text unit=((S.due key now).expire key now now,lfYes (Je (S.due key now).L key).isSome)):=hid (by simp[J0f,hp,hn])
   replace hu:=hid hu;clear hp;go_enter Tryz.func56,Tryz.ntmps56;go_wp2_with fail;rw[hw0.out];refine hparse.out.mono ?_;rintro e w1 ⟨rfl,S1⟩;have h2:=hexp w1 now (by omega) (hid S1)
   clear hparse S1 hfl herr hexp;go_wp2_with fail;refine h2.out.mono ?_;rintro e w2 ⟨rfl,l2,hX2,S2⟩;have h3:=hyes w2 (Je (S.due key now).L key).isSome l2 (hid S2);clear h2 hyes;obtain⟨bb,hbb⟩:∃bb,bb=(Je (S.due key now).L key).isSome:=⟨_,rfl⟩
   rw[<-hbb] at hres h3⊢;clear hbb S2;replace hX2:=hid hX2;go_wp2_with fail;refine h3.out.mono ?_;rintro e w3 ⟨rfl,S3⟩;obtain⟨⟨c0,hc0⟩,⟨c1,hc1⟩,⟨c2,hc2⟩,⟨c3,hc3⟩,⟨c4,hc4⟩,⟨c5,hc5⟩,fz,hlt⟩:=J0d S3.own
   have S4:=hid (S3.setLf (lfYes bb));clear S3 h3;unfold Ja J7;go_wp2_with fail;refine bodyPost_ret (v:=Ja (lfYes bb)) (by simp[results,Tryz.results56,go_sem,J7,Ja,lfYes,Jm, *]<;>rfl) rfl ?_
   rw[hres.out];exact⟨rfl,l2,hX2.out,S4.out⟩
end Go.Proofs.YtncbcaabanoeoaaGreatDoor
namespace Go.Proofs.YtncbcaabanoeoaaGreatDoor
open Go
def Jac (S:St) (now:Int) (key:ByteArray):St×Lf:=((S.due key now).persist key,lfYes (Je (S.due key now).D key).isSome)
def Jof (S:St) (now:Int) (key:ByteArray):St×Lf:=(S.due key now,Jm ((S.due key now).ttl key now))
def Jw8 (S:St) (now:Int) (key:ByteArray):St×Lf:=(S.due key now,Jm (Jrt ((S.due key now).ttl key now)))
def Jm9 (S:St):St×Lf:=(S.flush,J44)
abbrev kv:ByteArray:=⟨#[118]⟩
def eNo (ev:List (Int×ByteArray)):St:=⟨[],[],ev,10000⟩
def eYes (D:AL Int) (ev:List (Int×ByteArray)):St:=one kk (Ji kv) D ev 10000
theorem Jzn:J6k 10000=eNo []:=by
 have:(max 0 (min (10000:Int) 1000000000000)).toNat=10000:=by decide
 rw[J6k,this];rfl
theorem Jya (now:Int):Jaq (J6k 10000) now kk kv []=(eYes [] [(1,kk)],J44):=Jwt (b:=10000) (bud:=10000) Jzn (by decide) (s:=kv) (by decide) now
theorem Jw9 (D:AL Int) (ev:List (Int×ByteArray)) (h:ev.length<=10):Kx (eYes D ev)/\(eYes D ev).load<=1000000000000:=
 ⟨Jgc (Nat.le_trans (Jhc (by decide)) (by decide)),by show ev.length+1<=_;omega⟩
end Go.Proofs.YtncbcaabanoeoaaGreatDoor
namespace Go.Proofs.YtncbcaabanoeoaaGreatDoor
open Go Go.RowKit
theorem Jkg {w0 w:World} {l r:Hp} {sb:Nat} {S:St} (hS:J3 w0 [] w (l++r)) (hG:J17 w0) (hX:Jh l sb S) (hev:S.ev.length<=2199023255552) (key:ByteArray) (hk:key.size<=1099511627776) (now:Int):
 Calls Tryz.prog 58 #[ptr sb,.string key,.int .i64 now] w (Jp w0 r sb ((S.due key now).persist key) (.bool (Je (S.due key now).D key).isSome)):=by
 have hdue:=hid (J6y hS hG hX (by omega) key hk now)
 have hev2:=Jhi S key now;generalize S.due key now=S' at hdue hev2⊢;have hev3:S'.ev.length<=4398046511104:=by omega
 clear hS hX hev hev2;go_enter Tryz.func58,Tryz.ntmps58;go_wp2_with fail;refine hdue.out.mono ?_;rintro e w1 ⟨rfl,l1,hX1,S1⟩;clear hdue;obtain⟨m,rfl,hok,hf⟩:=hX1
 have c4:=(K1 S1.own).c4;have hD:S'.D.length<=1099511627776:=by have:=hf.fewD;have:=hf.few;omega
 have hed:=hid (Jb3 m.xl m.xb S'.D key w1 hok.exp hD (SM.ownX S1.own))
 have hst:Hid (∀w' xl',Kq xl' m.xb (K3 S'.D key)->J3 w1 m.xl w' xl'->∃l',Jh l' sb {S' with D:=K3 S'.D key}/\J3 w0 [] w' (l'++r)):=fun w' xl' h1 h2=>
  ⟨_,⟨{m with xl:=xl'},rfl,⟨hok.tab,hok.rcn,h1,hok.slots,hok.free,hok.evs,hok.cells,hok.num,hok.holds,hok.all,hok.each,hok.few⟩,hf.undue key S'.ev⟩,SM.stepX S1 h2⟩
 clear S1 hok hf hD;cases hl:Je S'.D key with
 |none=>
  have hlast:Hid (∀w' l',Jh l' sb {S' with D:=K3 S'.D key}->J3 w0 [] w' (l'++r)->Jp w0 r sb (S'.persist key) (.bool (none:Option Int).isSome) (.returned (.bool false)) w'):=fun w' l' h1 h2=>⟨rfl,l',by simpa[St.persist,hl] using h1,h2⟩
  replace hl:=hid hl;go_wp2_with fail;refine hed.out.mono ?_;rintro e w2 ⟨rfl,xl',hE,ST⟩;obtain⟨l2,hX2,S2⟩:=hst.out w2 xl' hE ST
  have hdone:=hid (hlast.out w2 l2 hX2 S2);simp only[hl.out,Option.isSome_none];clear hed hE ST hX2 S2 hst hlast;go_wp2_with fail;go_ret;rw[hl.out];exact hdone.out
 |some t=>
  have hlast:Hid (∀w' l',Jh l' sb {S' with D:=K3 S'.D key,ev:=S'.ev++[(1,key)]}->J3 w0 [] w' (l'++r)->Jp w0 r sb (S'.persist key) (.bool (some t:Option Int).isSome) (.returned (.bool true)) w'):=fun w' l' h1 h2=>⟨rfl,l',by simpa[St.persist,hl] using h1,h2⟩
  replace hl:=hid hl;go_wp2_with fail;refine hed.out.mono ?_;rintro e w2 ⟨rfl,xl',hE,ST⟩;obtain⟨l2,hX2,S2⟩:=hst.out w2 xl' hE ST
  have htell:=hid (Jdc S2 hX2 hev3 1 key);simp only[hl.out,Option.isSome_some];clear hed hE ST hX2 S2 hst;go_wp2_with fail;refine htell.out.mono ?_;rintro e w3 ⟨rfl,l3,hX3,S3⟩;have hdone:=hid (hlast.out w3 l3 hX3 S3);clear htell hX3 S3 hlast;go_wp2_with fail;go_ret;rw[hl.out];exact hdone.out
end Go.Proofs.YtncbcaabanoeoaaGreatDoor
