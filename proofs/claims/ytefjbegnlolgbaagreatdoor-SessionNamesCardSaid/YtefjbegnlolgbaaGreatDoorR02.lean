/-
session.Do at a client of the hub: a command of keys, or one that isn't; at who is none.
-/
import Derived.Test.YtefjbegnlolgbaaGreatDoorR01
set_option linter.unusedVariables false
set_option linter.unusedSimpArgs false
set_option maxRecDepth 100000
set_option maxHeartbeats 8000000
namespace Go.Proofs.YtefjbegnlolgbaaGreatDoor
open Go Go.RowKit
variable {w0 w:World}{r:Hp}
def Joq (hb:Nat) (id:Int) (X:Hp):Prop:=∃(s:Hu) (K:KSt) (S:St) (c:Hc) (y:Hp),s.hb=hb/\s.Ok K S/\c∈s.hs/\c.id=id/\X.Perm (s.hp++y)
theorem Jpv {X:Hp} {hb:Nat} {id:Int} (hS:J1 w0 [] w (X++r)) (hJ:Joq hb id X) {b1 b2 b3:Nat} (h1:w.cell? ⟨b1,0,none⟩=some (.bool false)) (h2:w.cell? ⟨b2,0,none⟩=some (ptr hb)) (h3:w.cell? ⟨b3,0,none⟩=some (.int .i64 id)) (u:FrameMode):
 CallsD Tryz.prog 16 #[ptr b1,ptr b2,ptr b3] u w fun e u' w'=>u'=u/\(e= .returned (.tuple #[])/\J1 w0 [] w' (X++r)):=by
 obtain⟨s,K,S,c,y,rfl,hO,hc,rfl,hp⟩:=hJ
 have p:(X++r).Perm (s.hp++(y++r)):=by rw[<-List.append_assoc];exact hp.append_right r
 refine(Jn1 (hS.permR p) hO hc h1 h2 h3 u).mono ?_
 rintro e u' w' ⟨hu,he,h⟩;exact⟨hu,he,h.permR p.symm⟩
abbrev Jo1 (hb:Nat):Obj:=.cells #[ptr hb] 23 (0,0)
abbrev Jo2 (id:Int):Obj:=.cells #[.int .i64 id] 3 (0,0)
abbrev Jo6:Obj:=.cells #[.bool false] 4 (0,0)
theorem J1.boxes {L:Hp} (h:J1 w0 [] w (L++r)) (o1 o2:Obj):J1 w0 [] (((w.alloc o1).alloc o2).alloc J5) (L++((w.heap.size+1+1,J5)::(w.heap.size+1,o2)::(w.heap.size,o1)::r)):=by
 have h1:=((h.alloc o1).alloc o2).alloc J5;simp only[World.size_alloc] at h1;exact h1.permR (J2 fun f=>by simp only[SC];omega)
theorem Jo7 {P:Program} {c:Code} {K:Act->World->Prop} {Q:Exit->Act->World->Prop} {a:Act} (h:c.wp P (Exit.then K (fun _ _ _=>False)) a w):c.wp P (Exit.then K Q) a w:=
 wp_mono h fun e a w hq=>by cases e<;>first|exact hq|exact hq.elim
def Kh (w0:World) (r:Hp) (Q:Int->ByteArray->Int->Value->Value->Bool->Hp->Prop) (e:Ending) (w':World):Prop:=∃kd tx nn a n c na nn' nc en X,e= .returned (.tuple #[J3 kd tx nn (.slice a n c),.slice na nn' nc,.bool en])/\Q kd tx nn (.slice a n c) (.slice na nn' nc) en X/\J1 w0 [] w' (X++r)
theorem Km {s:Hu} {K:KSt} {S:St} (hS:J1 w0 [] w (s.hp++r)) (hO:s.Ok K S) {c:Hc} (hc:c∈s.hs) {g:Nat} {c0:ByteArray} {ws:List ByteArray} {m:Nat} (hA:J4l w0 r g 0 (c0::ws)) (hn:ws.length=m)
 {sp:Sp} (hck:J0k (c0::ws)=(sp,ByteArray.empty)) {Q:Int->ByteArray->Int->Value->Value->Bool->Hp->Prop}
 (hdo:((sp.kind==3)=false/\∃Q':Value->Hp->Prop,(∀kd tx nn lv nv X,Q' nv X->Q kd tx nn lv nv false X)/\∀(w':World) (y:Hp),J1 w0 [] w' (s.hp++(y++r))->Calls Tryz.prog 20 #[J0o s.hb c.b c.id (.slice (some ⟨g,if m=0 then 0 else 1,none⟩) m m),.int .i64 0,.int .i64 sp.kind,.slice (some ⟨g,0,none⟩) (m+1) (m+1)] w' (Jpc w0 (y++r) Q'))\/
 (sp.kind=3/\((sp.name.toList==[67,76,73,69,78,84])=false\/(sp.name.toList==[67,76,73,69,78,84])=true/\∃k ws',ws=k::ws'/\((J0x k).toList==[67,65,67,72,73,78,71])=false)/\
  ∃(en:Bool) (Q':Int->ByteArray->Int->Value->Hp->Prop),(∀kd tx nn lv X,Q' kd tx nn lv X->Q kd tx nn lv (.slice none 0 0) en X)/\∀(w':World) (y:Hp),J1 w0 [] w' (s.hp++(y++r))->Calls Tryz.prog 21 #[J0o s.hb c.b c.id (.slice (some ⟨g,if m=0 then 0 else 1,none⟩) m m),.string sp.name] w' (J6w w0 (y++r) Q' en)))
 (hJ:∀kd tx nn lv nv en X,Q kd tx nn lv nv en X->Joq s.hb c.id X):
  Calls Tryz.prog 7 #[ptr s.hb,.int .i64 c.id,.int .i64 0,.slice (some ⟨g,0,none⟩) (m+1) (m+1)] w (Kh w0 r Q):=by
  have hmf:∀(fn:Fn) (first cap:Array Value) (w:World),(Instr.makeFunc fn first cap).run Tryz.prog w= .ok (.func fn first cap) w:=fun _ _ _ _=>rfl
  have S1:=hS.boxes (Jo1 s.hb) (Jo2 c.id);obtain⟨w1,hw1⟩:∃w1,w1=((w.alloc (Jo1 s.hb)).alloc (Jo2 c.id)).alloc J5:=⟨_,rfl⟩
  rw[<-hw1] at S1;generalize hb0:w.heap.size=b0 at S1;obtain⟨R,hR⟩:∃R:Hp,R=s.hp++((b0+1+1,J5)::(b0+1,Jo2 c.id)::(b0,Jo1 s.hb)::r):=⟨_,rfl⟩
  rw[<-hR] at S1;have hown:∀w',J1 w0 [] w' R->Own w' (s.hp++((b0+1+1,J5)::(b0+1,Jo2 c.id)::(b0,Jo1 s.hb)::r)):=fun w' h=>hR▸h.own
  have x4:∀p:InW w0 [] R,p.w.cell? ⟨b0,0,none⟩=some (ptr s.hb):=fun p=>J0 (hown _ p.h).right.tail.tail.head 0
  have x5:∀p:InW w0 [] R,p.w.cell? ⟨b0+1,0,none⟩=some (.int .i64 c.id):=fun p=>J0 (hown _ p.h).right.tail.head 0
  have y2:∀p:InW w0 [] R,p.w.cell? ⟨s.hb,2,none⟩=some (.map (some s.hm)):=fun p=>(huC (hown _ p.h)).h2
  have lk:∀p:InW w0 [] R,(Instr.lookup 44 (.map (some s.hm)) (.int .i64 c.id) false).run Tryz.prog p.w= .ok (ptr c.b) p.w:=fun p=>Jkn (hown _ p.h) hO hc
  obtain⟨hb,hhb⟩:∃hb,hb=s.hb:=⟨_,rfl⟩
  obtain⟨cb,hcb⟩:∃cb,cb=c.b:=⟨_,rfl⟩
  obtain⟨id,hii⟩:∃id,id=c.id:=⟨_,rfl⟩
  rw[<-hhb,<-hii] at hw1 hR hdo hJ⊢;rw[<-hcb] at hdo lk;rw[<-hii] at x5 lk;rw[<-hhb] at x4 y2;generalize s.hm=hm at y2 lk;replace S1:=hid S1;replace hR:=hid hR;replace hdo:=hid hdo;replace hJ:=hid hJ;replace hA:=hid hA;replace hck:=hid hck;replace hn:=hid hn;replace hhb:=hid hhb;replace hcb:=hid hcb;replace hii:=hid hii;clear hS hO hc hown;go_enter_defers Tryz.func7,Tryz.ntmps7
  go_upto_region 1 with fail;generalize hw2:((w.alloc _).alloc _).alloc _=w2;obtain rfl:w1=w2:=hw1.trans hw2;try rw[hb0]
  clear hw1 hw2 hb0;refine J0q S1.out (by kernel_rfl) (by kernel_rfl) (fun hne=>?_)
  repeat (go_big_quiet_step (fail))
  refine J45 fun w3 S3=>?_
  clear x4 x5 y2 lk hne S1;go_upto_region 5 with fail;have S4:=S3.alloc Jo6;generalize hw4:w3.alloc _=w4;replace S4:J1 w0 [] w4 ((w3.heap.size,Jo6)::R):=hw4▸S4;clear hw4 S3;generalize w3.heap.size=b3 at S4⊢;rw[hR.out] at S4;have S5:J1 w0 [] w4 ((s.hp++[(b3,Jo6),(b0+1+1,J5),(b0+1,Jo2 id),(b0,Jo1 hb)])++r):=S4.permR (J2 fun f=>by rw[hii.out,hhb.out];simp only[SC];omega)
  have hchk:=J1f S5 (hA.out.more (x:=s.hp++[(b3,Jo6),(b0+1+1,J5),(b0+1,Jo2 id),(b0,Jo1 hb)])) (m+1);rw[hck.out,List.length_cons,hn.out] at hchk;unfold J18 Sp.val Jy at hchk;simp only at hchk
  replace hchk:=hid hchk;clear S4 S5;go_wp2_with fail;refine hchk.out.mono ?_;rintro e w5 ⟨rfl,S5⟩;clear hchk;go_upto_region 7 with fail;have S6:=S5.alloc (J07 sp);generalize hw6:w5.alloc _=w6;replace S6:J1 w0 [] w6 ((w5.heap.size,J07 sp)::_):=hw6▸S6;clear hw6 S5;generalize w5.heap.size=b6 at S6⊢;go_upto_region 9 with fail;obtain⟨q,hq⟩:∃q,q=if m=0 then 0 else 1:=⟨_,rfl⟩
  rw[<-hq] at hdo;obtain⟨R6,hR6⟩:∃R6:Hp,R6=(b6,J07 sp)::((s.hp++[(b3,Jo6),(b0+1+1,J5),(b0+1,Jo2 id),(b0,Jo1 hb)])++r):=⟨_,rfl⟩
  rw[<-hR6] at S6
  have hin:∀w' x,J1 w0 [] w' (x++R6)->w'.cell? ⟨b0,0,none⟩=some (ptr hb)/\w'.cell? ⟨b0+1,0,none⟩=some (.int .i64 id):=fun w' x h=>by
   have h1:=h.own.right;rw[hR6] at h1;have h2:=h1.tail.left.right;exact⟨J0 h2.tail.tail.tail.head 0,J0 h2.tail.tail.head 0⟩
  have f1:=(hin _ [] S6.drew).1;have f2:=(hin _ [] S6.drew).2;have g1:∀o,(w6.alloc o).drew.cell? ⟨b0,0,none⟩=some (ptr hb):=fun o=>(hin _ [_] (S6.alloc o).drew).1
  have g2:∀o,(w6.alloc o).drew.cell? ⟨b0+1,0,none⟩=some (.int .i64 id):=fun o=>(hin _ [_] (S6.alloc o).drew).2
  replace hin:=hid hin;replace hR6:=hid hR6;replace S6:=hid S6;by_cases hc1:m=0
  case' pos=>
   rw[if_pos hc1] at hq;subst hc1
  case' neg=>
   rw[if_neg hc1] at hq
  all_goals
   subst hq;have hend:=fun ar:Value=>hid (S6.out.alloc (J09 hb cb id ar))
   have hend2:=fun ar:Value=>hid (S6.out.alloc (J09 hb cb id ar)).drew
  case' pos=>
   go_cut [15] from 35 to 40 (fun s15 wc=>∃b7,s15=ptr b7/\Hid (J1 w0 [] wc ((b7,J09 hb cb id (.slice (some ⟨g,0,none⟩) 0 0))::R6)))
  case' neg=>
   go_cut [15] from 35 to 40 (fun s15 wc=>∃b7,s15=ptr b7/\Hid (J1 w0 [] wc ((b7,J09 hb cb id (.slice (some ⟨g,1,none⟩) m m))::R6)))
  case first=>
   refine Jo7 ?_;go_region_with (fail)
   all_goals (go_wp2_with fail;go_meet;first|exact⟨_,rfl,hend _⟩|exact⟨_,rfl,hend2 _⟩)
  case first=>
   refine Jo7 ?_;go_region_with (fail)
   all_goals (go_wp2_with fail;go_meet;first|exact⟨_,rfl,hend _⟩|exact⟨_,rfl,hend2 _⟩)
  all_goals
   obtain⟨b7,rfl,S7⟩:=hcut
   rename_i wc
   clear f1 f2 g1 g2 hend hend2 hin;first|generalize (Value.slice (some ⟨g,1,none⟩) m m)=ar at S7 hdo|generalize (Value.slice (some ⟨g,0,none⟩) 0 0)=ar at S7 hdo
   have S8:J1 w0 [] wc (s.hp++([(b7,J09 hb cb id ar),(b6,J07 sp),(b3,Jo6),(b0+1+1,J5),(b0+1,Jo2 id),(b0,Jo1 hb)]++r)):=S7.out.permR (J2 fun f=>by
    rw[hR6.out];simp only[SC];omega)
   have h7:=S8.own.right.left.head;have a0:wc.cell? ⟨b7,0,none⟩=some (ptr hb):=J0 h7 0;have a1:wc.cell? ⟨b7,1,none⟩=some (ptr cb):=J0 h7 1;have a2:wc.cell? ⟨b7,2,none⟩=some (.int .i64 id):=J0 h7 2;have a3:wc.cell? ⟨b7,3,none⟩=some ar:=J0 h7 3;have h6:=S8.own.right.left.tail.head;have p0:wc.cell? ⟨b6,0,none⟩=some (.string sp.name):=J0 h6 0;have p1:wc.cell? ⟨b6,1,none⟩=some (.int .i64 sp.kind):=J0 h6 1;rcases hdo.out with⟨hk,Q',hQ,hkeys⟩|⟨hk,hkeep,en,Q',hQ,hoth⟩
   case' inl=>
    have hcall:=hkeys wc _ S8;clear hkeys;unfold J0o at hcall;replace hcall:=hid hcall;replace hQ:=hid hQ;clear S7 S8 h7 h6 hdo;have hk2:(sp.kind !=3)=true:=by rw[bne,hk];rfl
    go_wp2_with fail;refine hcall.out.mono ?_;rintro e w9 ⟨kd,tx,nn,a,n1,cc1,na,nn',nc,X,rfl,hQ',S9⟩;clear hcall a0 a1 a2 a3 p0 p1;replace hQ':=hid (hQ.out kd tx nn (.slice a n1 cc1) _ _ hQ');clear hQ
    have S10:J1 w0 [] w9 ((b0+1+1,J5)::(X++([(b7,J09 hb cb id ar),(b6,J07 sp),(b3,Jo6),(b0+1,Jo2 id),(b0,Jo1 hb)]++r))):=S9.permR (J2 fun f=>by
     simp only[SC];omega)
    obtain⟨⟨c0,hc0⟩,⟨c1,hc1⟩,⟨c2,hc2⟩,⟨c3,hc3⟩,⟨c4,hc4⟩,⟨c5,hc5⟩,fz,hlt⟩:=Jl S10.own.head
    have SZ:J1 w0 [] _ ((b0+1+1,J1b kd tx nn (.slice a n1 cc1))::_):=S10.setVal kd tx nn (.slice a n1 cc1);obtain⟨wz,hwz⟩:∃wz,wz=(((((w9.setCell ⟨b0+1+1,0,none⟩ (.int .i64 kd)).setCell ⟨b0+1+1,1,none⟩ (.string tx)).setCell ⟨b0+1+1,2,none⟩ (.int .i64 nn)).setCell ⟨b0+1+1,3,none⟩ (.float .f64 0)).setCell ⟨b0+1+1,4,none⟩ (.bool false)).setCell ⟨b0+1+1,5,none⟩ (.slice a n1 cc1):=⟨_,rfl⟩
    rw[<-hwz] at SZ;clear S9 S10;unfold J3;go_upto_region 12 with fail;generalize hw11:(((((w9.setCell _ _).setCell _ _).setCell _ _).setCell _ _).setCell _ _).setCell _ _=w11;obtain rfl:wz=w11:=hwz.trans hw11;clear hwz hw11 c0 hc0 c1 hc1 c2 hc2 c3 hc3 c4 hc4 c5 hc5 fz hlt
   case' inr=>
    have hcall:=hoth wc _ S8;clear hoth;unfold J0o at hcall;replace hcall:=hid hcall;replace hQ:=hid hQ;replace hkeep:=hid hkeep;rw[hk] at p1;clear S7 S8 h7 h6 hdo hk;go_wp2_with fail;refine hcall.out.mono ?_;rintro e w9 ⟨kd,tx,nn,a,n1,cc1,X,rfl,hQ',S9⟩;clear hcall a0 a1 a2 a3 p0 p1;replace hQ':=hid (hQ.out kd tx nn (.slice a n1 cc1) _ hQ');clear hQ
    have S10:J1 w0 [] w9 ((b0+1+1,J5)::(X++([(b7,J09 hb cb id ar),(b6,J07 sp),(b3,Jo6),(b0+1,Jo2 id),(b0,Jo1 hb)]++r))):=S9.permR (J2 fun f=>by
     simp only[SC];omega)
    obtain⟨⟨c0,hc0⟩,⟨c1,hc1⟩,⟨c2,hc2⟩,⟨c3,hc3⟩,⟨c4,hc4⟩,⟨c5,hc5⟩,fz,hlt⟩:=Jl S10.own.head
    have S11:J1 w0 [] _ ((b0+1+1,J1b kd tx nn (.slice a n1 cc1))::_):=S10.setVal kd tx nn (.slice a n1 cc1);obtain⟨w10,hw10⟩:∃w10,w10=(((((w9.setCell ⟨b0+1+1,0,none⟩ (.int .i64 kd)).setCell ⟨b0+1+1,1,none⟩ (.string tx)).setCell ⟨b0+1+1,2,none⟩ (.int .i64 nn)).setCell ⟨b0+1+1,3,none⟩ (.float .f64 0)).setCell ⟨b0+1+1,4,none⟩ (.bool false)).setCell ⟨b0+1+1,5,none⟩ (.slice a n1 cc1):=⟨_,rfl⟩
    rw[<-hw10] at S11;clear S9 S10;unfold J3;go_upto_region 14 with fail;generalize hw11:(((((w9.setCell _ _).setCell _ _).setCell _ _).setCell _ _).setCell _ _).setCell _ _=w11;obtain rfl:w10=w11:=hw10.trans hw11;clear hw10 hw11 c0 hc0 c1 hc1 c2 hc2 c3 hc3 c4 hc4 c5 hc5 fz hlt;have h6:=S11.own.tail.right.left.tail.head;have p0:w10.cell? ⟨b6,0,none⟩=some (.string sp.name):=J0 h6 0;have h8:=S11.own.tail.right.left.tail.tail.head;have p3:w10.cell? ⟨b3,0,none⟩=some (.bool false):=J0 h8 0;have pz:∀j,w10.frozen? ⟨b3,j,none⟩=false:=fun j=>J6 h8 j
    have pl:=Jc h8;clear h6 h8;rcases hkeep.out with hkp|⟨hkp,k,ws',hws,hup⟩
    try any_goals (exfalso;have h9:=hn.out;rw[hws] at h9;simp at h9;done)
    all_goals
     first
     |(have hmark:=hup
       obtain⟨u,hu⟩:∃u,u=J0x k:=⟨_,rfl⟩
       rw[<-hu] at hup;have hm1:1<=m:=by have:=hn.out;rw[hws] at this;simp only[List.length_cons] at this;omega
       have hm2:(1:Int)<=(m:Int):=by omega
       have hgk:w10.cell? ⟨g,1,none⟩=some (.string k):=by
        have:=hA.out.at_ w10 ((b0+1+1,J1b kd tx nn (.slice a n1 cc1))::(X++[(b7,J09 hb cb id ar),(b6,J07 sp),(b3,Jo6),(b0+1,Jo2 id),(b0,Jo1 hb)])) (S11.permR (J2 fun f=>by simp only[SC];omega)) 1 k (by rw[hws];rfl)
        simpa using this
       have hupc:=J5m S11 k (hA.out.small k (by rw[hws];simp))
       rw[<-hu] at hupc;replace hupc:=hid hupc;replace hws:=hid hws;replace hu:=hid hu;clear S11;go_wp2_with fail;refine hupc.out.mono ?_;rintro e w14 ⟨rfl,S11⟩;clear hupc hgk p0 p3 pz pl;have h8:=S11.own.tail.right.left.tail.tail.head;have p3:w14.cell? ⟨b3,0,none⟩=some (.bool false):=J0 h8 0;have pz:∀j,w14.frozen? ⟨b3,j,none⟩=false:=fun j=>J6 h8 j
       have pl:=Jc h8;have S20:=S11.permR (l2:=(b3,Jo6)::((b0+1+1,J1b kd tx nn (.slice a n1 cc1))::(X++([(b7,J09 hb cb id ar),(b6,J07 sp),(b0+1,Jo2 id),(b0,Jo1 hb)]++r)))) (J2 fun f=>by simp only[SC];omega)
       have S21:J1 w0 [] _ ((b3,Jo6)::_):=S20.set 0 (.bool false);clear S11 S20 h8;go_upto_region 15 with fail;generalize hwz:w14.setCell _ _=wz at S21⊢)
     |(skip
       have S20:=S11.permR (l2:=(b3,Jo6)::((b0+1+1,J1b kd tx nn (.slice a n1 cc1))::(X++([(b7,J09 hb cb id ar),(b6,J07 sp),(b0+1,Jo2 id),(b0,Jo1 hb)]++r)))) (J2 fun f=>by simp only[SC];omega)
       have S21:J1 w0 [] _ ((b3,Jo6)::_):=S20.set 0 (.bool false);clear S11 S20;go_upto_region 15 with fail;generalize hwz:w10.setCell _ _=wz at S21⊢)
    all_goals
     have SZ:J1 w0 [] wz ((b0+1+1,J1b kd tx nn (.slice a n1 cc1))::(X++([(b7,J09 hb cb id ar),(b6,J07 sp),(b3,Jo6),(b0+1,Jo2 id),(b0,Jo1 hb)]++r))):=S21.permR (J2 fun f=>by simp only[SC];omega)
     clear S21 hwz p3 pz pl
  all_goals
   have hv:=SZ.own.head;have v0:wz.cell? ⟨b0+1+1,0,none⟩=some (.int .i64 kd):=J0 hv 0;have v1:wz.cell? ⟨b0+1+1,1,none⟩=some (.string tx):=J0 hv 1;have v2:wz.cell? ⟨b0+1+1,2,none⟩=some (.int .i64 nn):=J0 hv 2;have v3:wz.cell? ⟨b0+1+1,3,none⟩=some (.float .f64 0):=J0 hv 3;have v4:wz.cell? ⟨b0+1+1,4,none⟩=some (.bool false):=J0 hv 4;have v5:wz.cell? ⟨b0+1+1,5,none⟩=some (.slice a n1 cc1):=J0 hv 5;have fz:∀j,wz.frozen? ⟨b0+1+1,j,none⟩=false:=fun j=>J6 hv j
   have hlt:=Jc hv;have S12:J1 w0 [] _ ((b0+1+1,J1b kd tx nn (.slice a n1 cc1))::_):=SZ.setVal kd tx nn (.slice a n1 cc1);obtain⟨w12,hw12⟩:∃w12,w12=(((((wz.setCell ⟨b0+1+1,0,none⟩ (.int .i64 kd)).setCell ⟨b0+1+1,1,none⟩ (.string tx)).setCell ⟨b0+1+1,2,none⟩ (.int .i64 nn)).setCell ⟨b0+1+1,3,none⟩ (.float .f64 0)).setCell ⟨b0+1+1,4,none⟩ (.bool false)).setCell ⟨b0+1+1,5,none⟩ (.slice a n1 cc1):=⟨_,rfl⟩
   rw[<-hw12] at S12
   have S13:J1 w0 [] w12 (X++([(b0+1+1,J1b kd tx nn (.slice a n1 cc1)),(b7,J09 hb cb id ar),(b6,J07 sp),(b3,Jo6),(b0+1,Jo2 id),(b0,Jo1 hb)]++r)):=S12.permR (J2 fun f=>by
    simp only[SC];omega)
   have h3:w12.cell? ⟨b3,0,none⟩=some (.bool false):=J0 S13.own.right.left.tail.tail.tail.head 0;have h4:w12.cell? ⟨b0,0,none⟩=some (ptr hb):=J0 S13.own.right.left.tail.tail.tail.tail.tail.head 0;have h5:w12.cell? ⟨b0+1,0,none⟩=some (.int .i64 id):=J0 S13.own.right.left.tail.tail.tail.tail.head 0;have hdone:=hid (Jpv S13 (hJ.out _ _ _ _ _ _ _ hQ'.out) h3 h4 h5 .returning);clear SZ S12 S13 h3 h4 h5 hv;go_wp2_with fail;rw[<-hw12];clear hw12 v0 v1 v2 v3 v4 v5 fz hlt;refine leaves_cons (f:=16) (args:=#[ptr b3,ptr b0,ptr (b0+1)]) (by simp) (by simp[go_sem]) ?_
   refine hdone.out.mono ?_;rintro e u' w13 ⟨rfl,rfl,S14⟩;have hv:=S14.own.right.left.head;have v0:w13.cell? ⟨b0+1+1,0,none⟩=some (.int .i64 kd):=J0 hv 0;have v1:w13.cell? ⟨b0+1+1,1,none⟩=some (.string tx):=J0 hv 1;have v2:w13.cell? ⟨b0+1+1,2,none⟩=some (.int .i64 nn):=J0 hv 2;have v3:w13.cell? ⟨b0+1+1,3,none⟩=some (.float .f64 0):=J0 hv 3;have v4:w13.cell? ⟨b0+1+1,4,none⟩=some (.bool false):=J0 hv 4;have v5:w13.cell? ⟨b0+1+1,5,none⟩=some (.slice a n1 cc1):=J0 hv 5;have S15:=hid (S14.pick (l2:=X++r) (m:=[(b0+1+1,J1b kd tx nn (.slice a n1 cc1)),(b7,J09 hb cb id ar),(b6,J07 sp),(b3,Jo6),(b0+1,Jo2 id),(b0,Jo1 hb)]) (J2 fun f=>by simp only[SC];omega))
   clear hv S14 hdone;first
   |(refine⟨.tuple #[J3 kd tx nn (.slice a n1 cc1),.slice na nn' nc,.bool false],by simp[results,Tryz.results7,go_sem,J3, *]<;>rfl,?_⟩
     exact⟨kd,tx,nn,a,n1,cc1,na,nn',nc,_,X,rfl,hQ'.out,S15.out⟩)
   |(refine⟨.tuple #[J3 kd tx nn (.slice a n1 cc1),.slice none 0 0,.bool en],by simp[results,Tryz.results7,go_sem,J3, *]<;>rfl,?_⟩
     exact⟨kd,tx,nn,a,n1,cc1,none,0,0,en,X,rfl,hQ'.out,S15.out⟩)
theorem Jpt {s:Hu} {K:KSt} {S:St} (hS:J1 w0 [] w (s.hp++r)) (hO:s.Ok K S) {id:Int} (hn:id∉s.hs.map Hc.id) (v:Value):
 Calls Tryz.prog 7 #[ptr s.hb,.int .i64 id,.int .i64 0,v] w (Ji w0 (s.hp++r) (.tuple #[J3 0 ByteArray.empty 0 (.slice none 0 0),.slice none 0 0,.bool false])):=by
 have S1:=hS.boxes (Jo1 s.hb) (Jo2 id);obtain⟨w1,hw1⟩:∃w1,w1=((w.alloc (Jo1 s.hb)).alloc (Jo2 id)).alloc J5:=⟨_,rfl⟩
 rw[<-hw1] at S1;generalize hb0:w.heap.size=b0 at S1;obtain⟨R,hR⟩:∃R:Hp,R=s.hp++((b0+1+1,J5)::(b0+1,Jo2 id)::(b0,Jo1 s.hb)::r):=⟨_,rfl⟩
 rw[<-hR] at S1;have hown:∀w',J1 w0 [] w' R->Own w' (s.hp++((b0+1+1,J5)::(b0+1,Jo2 id)::(b0,Jo1 s.hb)::r)):=fun w' h=>hR▸h.own
 have x4:∀p:InW w0 [] R,p.w.cell? ⟨b0,0,none⟩=some (ptr s.hb):=fun p=>J0 (hown _ p.h).right.tail.tail.head 0
 have x5:∀p:InW w0 [] R,p.w.cell? ⟨b0+1,0,none⟩=some (.int .i64 id):=fun p=>J0 (hown _ p.h).right.tail.head 0
 have y2:∀p:InW w0 [] R,p.w.cell? ⟨s.hb,2,none⟩=some (.map (some s.hm)):=fun p=>(huC (hown _ p.h)).h2
 have lk:∀p:InW w0 [] R,(Instr.lookup 44 (.map (some s.hm)) (.int .i64 id) false).run Tryz.prog p.w= .ok (.pointer none) p.w:=fun p=>Jfi (hown _ p.h) hO hn
 obtain⟨hb,hhb⟩:∃hb,hb=s.hb:=⟨_,rfl⟩
 rw[<-hhb] at hw1 hR x4 y2⊢;generalize s.hm=hm at y2 lk;replace S1:=hid S1;replace hR:=hid hR;replace hhb:=hid hhb;replace hn:=hid hn;clear hS hO hown;go_enter_defers Tryz.func7,Tryz.ntmps7
 go_upto_region 1 with fail;generalize hw2:((w.alloc _).alloc _).alloc _=w2;obtain rfl:w1=w2:=hw1.trans hw2;try rw[hb0]
 clear hw1 hw2 hb0;refine J0q S1.out (by kernel_rfl) (by kernel_rfl) (fun hne=>?_)
 repeat (go_big_quiet_step (fail))
 refine J45 fun w3 S3=>?_
 clear x4 x5 y2 lk hne S1;rw[hR.out] at S3;have hz:=(S3.own.right.head:_=some J5);obtain⟨⟨c0,hc0⟩,⟨c1,hc1⟩,⟨c2,hc2⟩,⟨c3,hc3⟩,⟨c4,hc4⟩,⟨c5,hc5⟩,fz,hlt⟩:=Jl hz
 have S4:=hid ((((S3.permR List.perm_middle).setVal 0 ByteArray.empty 0 (.slice none 0 0)).pick (l2:=s.hp++r) (m:=[(b0+1+1,.cells #[.int .i64 0,.string ByteArray.empty,.int .i64 0,.float .f64 0,.bool false,.slice none 0 0] 29 (0,0)),(b0+1,Jo2 id),(b0,Jo1 hb)]) (J2 fun f=>by simp only[SC];omega)))
 clear S3 hz;go_wp2_with fail;refine⟨.tuple #[J3 0 ByteArray.empty 0 (.slice none 0 0),.slice none 0 0,.bool false],by simp[results,Tryz.results7,go_sem,J3, *]<;>rfl,rfl,S4.out⟩
end Go.Proofs.YtefjbegnlolgbaaGreatDoor
