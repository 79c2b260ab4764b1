/-
exec.Run, whichever layer does the command, or none: some outcome that the layer's contract allows.
-/
import Derived.Lib.AppendZeros
import Derived.LoopN
import Derived.Test.YtefjbegnlolgbaaGreatDoorQ22
set_option linter.unusedVariables false
set_option linter.unusedSimpArgs false
set_option maxRecDepth 100000
set_option maxHeartbeats 8000000
namespace Go.Proofs.YtefjbegnlolgbaaGreatDoor
open Go Go.RowKit
variable {w0 w:World}{l r:Hp}{S:St}{off b:Nat}{L:List (Int × Nat)}{id:Int}
def J3h (w0:World) (r:Hp) (sb:Nat) (S:St) (kd:Int) (tx:ByteArray) (nn:Int) (xs:List Lf) (e:Ending) (w':World):Prop:=
 ∃a c ev xl el l',e= .returned (.tuple #[J3 kd tx nn (.slice a xs.length c),ev])/\J3n (.slice a xs.length c) xs xl/\SliceHp 2 146 ev S.ev.length (J1w S.ev) el/\Je l' sb {S with ev:=[]}/\J1 w0 [] w' (l'++(xl++(el++r)))
def J6y (w0:World) (r:Hp) (sb:Nat) (P:Res->Prop) (e:Ending) (w':World):Prop:=∃o:Res,P o/\J3h w0 r sb o.st o.kd o.tx o.nn o.xs e w'
theorem Jbz {sb:Nat} {P:Res->Prop} {g:Nat} {c:ByteArray} {ws:List ByteArray} (h:Ctx w0 w l r sb S g off (c::ws)) (sp:Sp) (hc:J0k (c::ws)=(sp,ByteArray.empty)) (hk:J1z (sp,ByteArray.empty)=true) (now:Int) (cap:Nat) (hcap:(c::ws).length<=cap)
 (hdo:(∀(w':World) (x:Hp),J1 w0 [] w' (l++(x++r))->Calls Tryz.prog 59 #[ptr sb,.int .i64 now,.slice (some ⟨g,off,none⟩) (c::ws).length cap] w' (Jbb w0 (x++r) sb P))\/
 (∀(w':World) (x:Hp),J1 w0 [] w' (l++(x++r))->Calls Tryz.prog 59 #[ptr sb,.int .i64 now,.slice (some ⟨g,off,none⟩) (c::ws).length cap] w' (Jbd w0 (l++(x++r))))/\
 ((∀(w':World) (x:Hp),J1 w0 [] w' (l++(x++r))->Calls Tryz.prog 60 #[ptr sb,.int .i64 now,.slice (some ⟨g,off,none⟩) (c::ws).length cap] w' (Jbb w0 (x++r) sb P))\/
 (∀(w':World) (x:Hp),J1 w0 [] w' (l++(x++r))->Calls Tryz.prog 60 #[ptr sb,.int .i64 now,.slice (some ⟨g,off,none⟩) (c::ws).length cap] w' (Jbd w0 (l++(x++r))))/\
  ∀(w':World) (x:Hp) (q:Nat),(ws≠[]->q=off+1)->J1 w0 [] w' (l++(x++r))->Calls Tryz.prog 61 #[ptr sb,.int .i64 now,.string sp.name,.slice (some ⟨g,q,none⟩) ws.length (cap - 1)] w' (J1v w0 (x++r) sb P))):
  Calls Tryz.prog 34 #[ptr sb,.int .i64 now,.slice (some ⟨g,off,none⟩) (c::ws).length cap] w (J6y w0 r sb P):=by
  have H:=h.alloc J5;have hchk:=J1f H.st (H.args.more (x:=l)) cap;rw[hc] at hchk;unfold J18 Sp.val Jy at hchk;simp only at hchk
  have his:∀(w':World) (L:Hp),Hid (J1 w0 [] w' (L++r))->Hid (Calls _ _ _ w' _):=fun w' L hS=>hid (Jfl hS.out (h.args.more (x:=L)) cap)
  rw[hc,hk] at his;clear hc hk;obtain⟨n,hlen⟩:∃n,(c::ws).length=n:=⟨_,rfl⟩
  have hws:ws.length=n - 1:=by rw[<-hlen];simp only[List.length_cons];omega
  rw[hlen] at hchk his hdo hcap⊢;rw[hws] at hdo;have hn:0<n:=by rw[<-hlen];simp only[List.length_cons];omega
  have hn1:(1:Int)<=(n:Int):=by omega
  replace hlen:=hid hlen;replace hws:=hid hws;replace hchk:=hid hchk;replace hdo:=hid hdo;clear h H;go_enter Tryz.func34,Tryz.ntmps34;go_wp2_with fail;refine hchk.out.mono ?_;rintro e w2 ⟨rfl,S2⟩;clear hchk;generalize w.heap.size=b at S2⊢;go_upto_region 2 with fail;have S3:=S2.alloc (.cells #[.string sp.name,.int .i64 sp.kind,.int .i64 sp.least,.int .i64 sp.most,.int .i64 sp.first,.int .i64 sp.last,.int .i64 sp.step] 53);generalize hw3:w2.alloc _=w3;replace S3:J1 w0 [] w3 ((w2.heap.size,J07 sp)::_):=hw3▸S3;clear hw3 S2;generalize w2.heap.size=b1 at S3⊢;have hi:=his w3 ([(b1,J07 sp),(b,J5)]++l) (hid (S3.permR (J2 fun f=>by simp only[SC];omega)))
  clear his;replace S3:=hid S3;go_wp2_with fail;refine hi.out.mono ?_;rintro e w4 ⟨rfl,S4⟩;clear hi S3;replace S4:J1 w0 [] w4 (l++([(b1,J07 sp),(b,J5)]++r)):=S4.permR (J2 fun f=>by simp only[SC];omega)
  rcases hdo.out with htx|⟨htx,hfd⟩
  case' inl=>
   have hd:=hid (htx w4 _ S4);clear htx S4 hdo;go_wp2_with fail;refine hd.out.mono ?_;rintro e w5 ⟨⟨T,kd,tx,nn,xs⟩,hP,la,lc,xl,l5,rfl,hxl,hX5,S5⟩;simp only at hxl hX5 S5
   clear hd;obtain⟨m,hm⟩:∃m,m=xs.length:=⟨_,rfl⟩
   rw[<-hm] at hxl⊢;replace hm:=hid hm;replace hP:=hid hP;replace hX5:=hid hX5;replace hxl:=hid hxl;unfold J3;go_upto_region 7 with fail;have S7:=S5.alloc (J1b kd tx nn (.slice la m lc));generalize hw6:w5.alloc _=w6;replace S7:J1 w0 [] w6 _:=hw6▸S7;clear hw6 S5;generalize w5.heap.size=b2 at S7⊢;replace S7:=hid S7
  case' inr=>
   have hd:=hid (htx w4 _ S4);replace hfd:=hid hfd;clear htx S4 hdo;go_wp2_with fail;refine hd.out.mono ?_;rintro e w5 ⟨rfl,S5⟩;clear hd;unfold J3;go_upto_region 8 with fail;have S6:=S5.alloc (J1b 0 ByteArray.empty 0 (.slice none 0 0));generalize hw6:w5.alloc _=w6;replace S6:J1 w0 [] w6 _:=hw6▸S6;clear hw6 S5;generalize w5.heap.size=b2 at S6⊢;replace S6:J1 w0 [] w6 (l++((b2,J1b 0 ByteArray.empty 0 (.slice none 0 0))::([(b1,J07 sp),(b,J5)]++r))):=S6.permR (J2 fun f=>by simp only[SC];omega)
   rcases hfd.out with hfd|⟨hfd,how⟩
   case' inl=>
    have hd:=hid (hfd w6 ((b2,J1b 0 ByteArray.empty 0 (.slice none 0 0))::[(b1,J07 sp),(b,J5)]) S6);clear hfd S6;go_wp2_with fail
   case' inr=>
    have hd:=hid (hfd w6 ((b2,J1b 0 ByteArray.empty 0 (.slice none 0 0))::[(b1,J07 sp),(b,J5)]) S6);replace how:=hid how;clear hfd S6;go_wp2_with fail;refine hd.out.mono ?_;rintro e w7 ⟨rfl,S7⟩;clear hd;replace S7:J1 w0 [] w7 ((b2,J1b 0 ByteArray.empty 0 (.slice none 0 0))::(l++([(b1,J07 sp),(b,J5)]++r))):=S7.permR (J2 fun f=>by simp only[SC];omega)
    obtain⟨⟨c0,hc0⟩,⟨c1,hc1⟩,⟨c2,hc2⟩,⟨c3,hc3⟩,⟨c4,hc4⟩,⟨c5,hc5⟩,fz,hlt⟩:=Jl S7.own.head
    replace S7:J1 w0 [] _ ((b2,J1b 0 ByteArray.empty 0 (.slice none 0 0))::_):=S7.setVal 0 ByteArray.empty 0 (.slice none 0 0);unfold J3;go_upto_region 9 with fail;clear c0 hc0 c1 hc1 c2 hc2 c3 hc3 c4 hc4 c5 hc5 fz hlt;generalize hw8:(((((w7.setCell _ _).setCell _ _).setCell _ _).setCell _ _).setCell _ _).setCell _ _=w8 at S7⊢;clear hw8;go_upto_region 10 with fail;obtain⟨L,hL⟩:∃L:Hp,L=(b2,J1b 0 ByteArray.empty 0 (.slice none 0 0))::(l++([(b1,J07 sp),(b,J5)]++r)):=⟨_,rfl⟩
    rw[<-hL] at S7;have hm1:(b1,J07 sp)∈L:=by rw[hL];simp
    have nm:∀p:InW w0 [] L,p.w.cell? ⟨b1,0,none⟩=some (.string sp.name):=fun p=>J0 (p.h.own.at_ _ hm1) 0
    replace hL:=hid hL;clear hm1;obtain⟨q,hq,hq2⟩:∃q,(ws≠[]->q=off+1)/\q=if cap - 1=0 then off else off+1:=⟨_,fun hne=>if_neg (by have:=List.length_pos_iff.2 hne;have:=hws.out;omega),rfl⟩
    replace hq:=hid hq;by_cases hc1:cap - 1=0
    all_goals
     first|rw[if_pos hc1] at hq2|rw[if_neg hc1] at hq2
     subst hq2;refine Jx 6 S7 (by kernel_rfl) (by kernel_rfl) (fun hne=>?_)
     simp only[List.take_succ_cons,List.take_zero,List.drop_succ_cons,List.drop_zero];replace S7:=hid S7;repeat (go_big_quiet_step (fail))
     refine J17 fun w9 S10=>?_
     clear nm hne S7;rw[hL.out] at S10;have hd:=how.out w9 ((b2,J1b 0 ByteArray.empty 0 (.slice none 0 0))::[(b1,J07 sp),(b,J5)]) _ hq.out (S10.permR (J2 fun f=>by simp only[SC];omega))
     try rw[hc1] at hd
     replace hd:=hid hd;clear how S10 hL hq;go_wp2_with fail
   all_goals
    refine hd.out.mono ?_;rintro e w10 ⟨⟨T,kd,tx,nn,xs⟩,hP,la,lc,xl,l5,rfl,hxl,hX5,S7⟩;simp only at hxl hX5 S7
    clear hd;obtain⟨m,hm⟩:∃m,m=xs.length:=⟨_,rfl⟩
    rw[<-hm] at hxl⊢;replace S7:J1 w0 [] w10 ((b2,J1b 0 ByteArray.empty 0 (.slice none 0 0))::(l5++(xl++([(b1,J07 sp),(b,J5)]++r)))):=S7.permR (J2 fun f=>by simp only[SC];omega)
    obtain⟨⟨c0,hc0⟩,⟨c1,hc1⟩,⟨c2,hc2⟩,⟨c3,hc3⟩,⟨c4,hc4⟩,⟨c5,hc5⟩,fz,hlt⟩:=Jl S7.own.head
    replace S7:J1 w0 [] _ ((b2,J1b kd tx nn (.slice la m lc))::_):=S7.setVal kd tx nn (.slice la m lc);replace hP:=hid hP;replace hX5:=hid hX5;replace hxl:=hid hxl;replace hm:=hid hm;unfold J3;go_upto_region 11 with fail;clear c0 hc0 c1 hc1 c2 hc2 c3 hc3 c4 hc4 c5 hc5 fz hlt;generalize hw8:(((((w10.setCell _ _).setCell _ _).setCell _ _).setCell _ _).setCell _ _).setCell _ _=w6 at S7⊢;clear hw8;replace S7:=hid S7
  all_goals
   obtain⟨R,hR⟩:∃R:Hp,R=xl++((b2,J1b kd tx nn (.slice la m lc))::(b1,J07 sp)::r):=⟨_,rfl⟩
   have S8:J1 w0 [] w6 (l5++((b,J5)::R)):=S7.out.permR (J2 fun f=>by
    rw[hR];simp only[SC];omega)
   have hevs:∀(w':World),Hid (J1 w0 [] w' (l5++((b,J5)::R)))->Hid (Calls _ _ _ w' _):=fun w' hS=>hid (J91 (r:=(b,J5)::R) hS.out hX5.out)
   have hs1:Hid (J1 w0 [] w6.drew (l5++((b,J5)::R))):=hid S8.drew;have hx1:Hid (InX w0 R w6.drew):=hid ⟨l5++[(b,J5)],by rw[List.append_assoc];exact S8.drew⟩
   have hm2:(b2,J1b kd tx nn (.slice la m lc))∈R:=by rw[hR];simp
   have hkeep:Hid (∀w':World,Hid (InX w0 R w')->w'.cell? ⟨b2,0,none⟩=some (.int .i64 kd)/\w'.cell? ⟨b2,1,none⟩=some (.string tx)/\w'.cell? ⟨b2,2,none⟩=some (.int .i64 nn)/\w'.cell? ⟨b2,3,none⟩=some (.float .f64 0)/\w'.cell? ⟨b2,4,none⟩=some (.bool false)/\w'.cell? ⟨b2,5,none⟩=some (.slice la m lc)/\Hid (InX w0 R w')):=hid fun w' hw=>by
    have hh:=InX.get hw hm2;exact⟨J0 hh 0,J0 hh 1,J0 hh 2,J0 hh 3,J0 hh 4,J0 hh 5,hw⟩
   replace hR:=hid hR;clear hm2 S7 S8;go_upto_region 11 with fail
   go_region_held3 (fun w'=>w'.cell? ⟨b2,0,none⟩=some (.int .i64 kd)/\w'.cell? ⟨b2,1,none⟩=some (.string tx)/\w'.cell? ⟨b2,2,none⟩=some (.int .i64 nn)/\w'.cell? ⟨b2,3,none⟩=some (.float .f64 0)/\w'.cell? ⟨b2,4,none⟩=some (.bool false)/\w'.cell? ⟨b2,5,none⟩=some (.slice la m lc)/\Hid (InX w0 R w'))
    (first|(with_reducible exact hkeep.out _ hx1)|(with_reducible exact hkeep.out _ (hset.out _ _ _ _ _ _))|(with_reducible exact hkeep.out _ (by assumption))|(fail "keep"))
    (first|(go_at_call 57;refine((hevs _) hs1).out.mono ?_;rintro e w11 ⟨ev,vl,l3,rfl,hsv,hX3,S2⟩;have S3:=S2.permR (l2:=(b,J5)::((l3++vl)++R)) (J2 fun f=>by simp only[SC];omega);obtain⟨⟨c0,hc0⟩,⟨c1,hc1⟩,⟨c2,hc2⟩,⟨c3,hc3⟩,⟨c4,hc4⟩,⟨c5,hc5⟩,fz,hlt⟩:=Jl S3.own.head;have hset:Hid (∀v0 v1 v2 v3 v4 v5,_):=hid fun v0 v1 v2 v3 v4 v5=>InX.set6 (A:=l3++vl) (R:=R) S3 v0 v1 v2 v3 v4 v5;have hx3:Hid (InX w0 R w11):=hid (S3.inX ([(b,J5)]++(l3++vl)) (by simp));replace S3:=hid S3;replace hsv:=hid hsv;replace hX3:=hid hX3;clear S2))
   all_goals (
    have S9:J1 w0 [] _ ((b,J1b kd tx nn (.slice la m lc))::_):=S3.out.setVal kd tx nn (.slice la m lc);rw[hR.out] at S9;replace S9:=hid (S9.pick (l2:=l3++(xl++(vl++r))) (m:=[(b,J1b kd tx nn (.slice la m lc)),(b2,J1b kd tx nn (.slice la m lc)),(b1,J07 sp)]) (J2 fun f=>by simp only[SC];omega))
    clear hevs hs1 hx1 hkeep hset hx3 S3 hR;go_wp2_with fail;refine bodyPost_ret (v:=.tuple #[J3 kd tx nn (.slice la m lc),ev]) (by simp[results,Tryz.results34,go_sem,J3, *]<;>rfl) rfl ?_
    refine⟨⟨T,kd,tx,nn,xs⟩,hP.out,la,lc,ev,xl,vl,l3,?_,?_,hsv.out,hX3.out,S9.out⟩
    ·simp only;rw[hm.out]
    ·simp only;rw[<-hm.out];exact hxl.out)
structure KC (w0 w:World) (l r:Hp) (sb:Nat) (S:St) (g off:Nat) (c:ByteArray) (ws:List ByteArray) (sp:Sp) (now:Int) (cap:Nat):Prop where
 ctx:Ctx w0 w l r sb S g off (c::ws)
 chk:J0k (c::ws)=(sp,ByteArray.empty)
 keys:J1z (sp,ByteArray.empty)=true
 now_:0<=now/\now<=4611686018427387904
 cap_:(c::ws).length<=cap
 cap2:cap<=9223372036854775807
 few:(c::ws).length<=64
section
variable {w0 w:World} {l r:Hp} {sb:Nat} {S:St} {g off:Nat} {c k:ByteArray} {ws:List ByteArray} {sp:Sp} {now:Int} {cap:Nat} {P:Res->Prop}
abbrev KG (w0 w:World) (r:Hp) (sb g off:Nat) (c:ByteArray) (ws:List ByteArray) (now:Int) (cap:Nat) (P:Res->Prop):Prop:=
 Calls Tryz.prog 34 #[ptr sb,.int .i64 now,.slice (some ⟨g,off,none⟩) (c::ws).length cap] w (J6y w0 r sb P)
theorem KC.text (H:KC w0 w l r sb S g off c (k::ws) sp now cap) (hjob:(∃f av,(sp.name.toList,f,av)∈Jc7/\∀(w':World) (R:Hp),Ctx w0 w' l R sb S g (off+1) (k::ws)->Calls Tryz.prog f (av (J46 sb now g (off+1) (k::ws).length (cap - 1))) w' (J1v w0 R sb P))\/sp.name.toList=[71,69,84]/\P (J6m (Jha S now k))):KG w0 w r sb g off c (k::ws) now cap P:=
 Jbz H.ctx sp H.chk H.keys now cap H.cap_ (.inl fun _ x hS=>Jm0 (H.ctx.at (x:=x) rfl hS) sp H.chk now cap H.cap_ H.cap2 (hjob.imp_left fun⟨f,av,hm,hj⟩=>⟨f,av,hm,fun w' _ C=>hj w' _ C⟩))
theorem KC.own (H:KC w0 w l r sb S g off c ws sp now cap) (ht:J8j sp=true) (hm:J7 J5d sp.name=none)
 (how:∀(w':World) (R:Hp) (q:Nat),Ctx w0 w' l R sb S g q ws->Calls Tryz.prog 61 #[ptr sb,.int .i64 now,.string sp.name,.slice (some ⟨g,q,none⟩) ws.length (cap - 1)] w' (J1v w0 R sb P)):KG w0 w r sb g off c ws now cap P:=
 Jbz H.ctx sp H.chk H.keys now cap H.cap_ (.inr ⟨fun _ x hS=>Jfv (H.ctx.at (x:=x) rfl hS) sp H.chk ht now cap H.cap_ H.cap2,.inr ⟨fun _ x hS=>Jkm (H.ctx.at (x:=x) rfl hS) sp H.chk hm now cap,fun w' x q hq hS=>how w' (x++r) q (by
  have C:=(H.ctx.at (x:=x) rfl hS).tail;cases ws with
  |nil=>exact⟨C.st,C.gl,C.is,C.tight,C.load,⟨fun _ _ _ i s hs=>by simp at hs,by simp,by simp⟩⟩
  |cons a t=>rw[hq (by simp)];exact C)⟩⟩)
end
def J9t:Sp:=⟨⟨#[69,88,80,73,82,69]⟩,2,3,3,1,1,1⟩
def Jax:Sp:=⟨⟨#[80,69,88,80,73,82,69]⟩,2,3,3,1,1,1⟩
theorem J1v.is {R:Hp} {sb:Nat} {p:St×Lf} {e:Ending} {w':World} (h:Jw w0 R sb p.1 (K4 p.2) e w'):J1v w0 R sb (·=J6m p) e w':=⟨_,rfl,Jee.leaf h⟩
section
variable {w0 w w':World} {l r:Hp} {sb:Nat} {S:St} {c k m:ByteArray} {ws:List ByteArray} {sp:Sp} {now:Int} {P:Res->Prop} {e:Ending}
theorem J3h.letGo {p:Nat×Obj} {kd nn:Int} {tx:ByteArray} {xs:List Lf} (h:J3h w0 (p::r) sb S kd tx nn xs e w'):J3h w0 r sb S kd tx nn xs e w':=by
 obtain⟨a,c,ev,xl,el,l',rfl,h1,h2,h3,h4⟩:=h
 exact⟨a,c,ev,xl,el,l',rfl,h1,h2,h3,h4.pick (m:=[p]) (J2 fun f=>by simp only[SC];omega)⟩
theorem J6y.at {o:Res} {p:Nat×Obj} (h:J6y w0 (p::r) sb (·=o) e w'):J3h w0 r sb o.st o.kd o.tx o.nn o.xs e w':=by
 obtain⟨_,rfl,q⟩:=h
 exact q.letGo
theorem KC.of (hS:J1 w0 [] w (l++r)) (hG:J1q w0) (hX:Je l sb S) (hT:J00 S/\S.load<=1000000000000) (hs:∀s∈(c::ws),s.size<=1099511627776) (hc:J0k (c::ws)=(sp,ByteArray.empty)) (hk:J1z (sp,ByteArray.empty)=true) (hnow:0<=now/\now<=4611686018427387904) (hf:(c::ws).length<=64):
 KC w0 (w.alloc (J7j (c::ws))) l ((w.heap.size,J7j (c::ws))::r) sb S w.heap.size 0 c ws sp now (c::ws).length:=
 ⟨Ctx.call hS hG hX hT.1 hT.2 (c::ws) hs (by omega),hc,hk,hnow,Nat.le_refl _,by omega,hf⟩
theorem Jed (hS:J1 w0 [] w (l++r)) (hG:J1q w0) (hX:Je l sb S) (hT:J00 S/\S.load<=1000000000000) (hs:∀s∈[c,k,m],s.size<=1099511627776) (hc:J0k [c,k,m]=(Jje,ByteArray.empty)) (hnow:0<=now/\now<=4611686018427387904):
 Calls Tryz.prog 34 #[ptr sb,.int .i64 now,.slice (some ⟨w.heap.size,0,none⟩) 3 3] (w.alloc (J7j [c,k,m])) (J3h w0 r sb (J8b S now k m []).1 (J8b S now k m []).2.kind (J8b S now k m []).2.text (J8b S now k m []).2.n []):=
 ((KC.of hS hG hX hT hs hc (by kernel_rfl) hnow (by simp)).text (P:=(·=J6m (J8b S now k m []))) (.inl ⟨_,fun j=>#[j],List.mem_of_getElem? (i:=0) (by kernel_rfl),fun w' R C=>(Jc1 C now hnow 2 (by simp) (by decide)).mono fun _ _ hp=>.is hp⟩)).mono fun _ _ hp=>hp.at
theorem J84 (hS:J1 w0 [] w (l++r)) (hG:J1q w0) (hX:Je l sb S) (hT:J00 S/\S.load<=1000000000000) (hs:∀s∈[c,k,m],s.size<=1099511627776) (hc:J0k [c,k,m]=(J9t,ByteArray.empty)) (hnow:0<=now/\now<=4611686018427387904):
 Calls Tryz.prog 34 #[ptr sb,.int .i64 now,.slice (some ⟨w.heap.size,0,none⟩) 3 3] (w.alloc (J7j [c,k,m])) (J3h w0 r sb (J0e S now k m 1000).1 (J0e S now k m 1000).2.kind (J0e S now k m 1000).2.text (J0e S now k m 1000).2.n []):=
 ((KC.of hS hG hX hT hs hc (by kernel_rfl) hnow (by simp)).own (P:=(·=J6m (J0e S now k m 1000))) (by kernel_rfl) (by kernel_rfl) fun w' R q C=>(J5x C now hnow _).mono fun _ _ hp=>.is hp).mono fun _ _ hp=>hp.at
end
def J1t (L:List (Int×Nat)):IL Value:=L.map fun p=>(p.1,ptr p.2)
def Jko (o:Obj) (L:List (Int×Nat)):Hp:=L.map fun p=>(p.2,o)
theorem J99 (L:List (Int×Nat)):(J1t L).map Prod.fst=L.map Prod.fst:=by simp[J1t]
theorem Jkp (hn:(L.map Prod.fst).Nodup) {p:Int×Nat} (hp:p∈L):J0j (J1t L) p.1=some (ptr p.2):=by
 induction L with
 |nil=>cases hp
 |cons q L ih=>
  simp only[List.map_cons,List.nodup_cons] at hn;rcases List.mem_cons.1 hp with rfl|h
  ·simp[J0j,J1t]
  ·have hne:¬q.1=p.1:=fun e=>hn.1 (by rw[e];exact List.mem_map_of_mem h)
   have:=ih hn.2 h
   simpa[J0j,J1t,hne] using this
theorem Jfj (h:id∉L.map Prod.fst):J0j (J1t L) id=none:=by
 induction L with
 |nil=>rfl
 |cons q L ih=>
  simp only[List.map_cons,List.mem_cons,not_or] at h;have hne:¬q.1=id:=fun e=>h.1 e.symm
  have:=ih h.2
  simpa[J0j,J1t,hne] using this
theorem Jif (h:id∉L.map Prod.fst) (b:Nat):J9h (J1t L) id (ptr b)=J1t (L++[(id,b)]):=by
 unfold J9h;rw[Jfj h];simp[J1t]
theorem Jnv (L:List (Int×Nat)) (id:Int):J4s (J1t L) id=J1t (L.filter fun p=>decide (p.1≠id)):=by
 unfold J4s J1t;rw[List.filter_map];rfl
theorem Jln (o:Obj) (L M:List (Int×Nat)):Jko o (L++M)=Jko o L++Jko o M:=by simp[Jko]
section
variable {t e:TypeId} (ht:Tryz.prog.underlying t=some (.map 3 e)) (hz:∀w,(zeroValue e).run Tryz.prog w= .ok (.pointer none) w) {w:World} {b:Nat} {o:Obj} {L:List (Int×Nat)} (hh:w.heap[b]? =some o) (hm:K8 o (J1t L))
include ht hz hh hm
theorem Jfr (hn:(L.map Prod.fst).Nodup) {id:Int} {c:Nat} (hp:(id,c)∈L):(Instr.lookup t (.map (some b)) (.int .i64 id) false).run Tryz.prog w= .ok (ptr c) w:=by
 have h:=J23 (P:=Tryz.prog) (t:=t) ht Tryz.underlying3 hz hh hm id;have k:=Jkp hn hp;simp only at k
 rw[k] at h;exact h
theorem Jj9 {id:Int} (hp:id∉L.map Prod.fst):(Instr.lookup t (.map (some b)) (.int .i64 id) false).run Tryz.prog w= .ok (.pointer none) w:=by
 have h:=J23 (P:=Tryz.prog) (t:=t) ht Tryz.underlying3 hz hh hm id;rw[Jfj hp] at h;exact h
end
theorem Jk7 (w:World):(zeroValue 47).run Tryz.prog w= .ok (.pointer none) w:=by kernel_rfl
theorem Jk9 (w:World):(zeroValue 84).run Tryz.prog w= .ok (.pointer none) w:=by kernel_rfl
theorem J1.obj' {o:Obj} (h:J1 w0 l w ((b,o)::r)) (o':Obj):J1 w0 l {w with heap:=w.heap.setIfInBounds b o'} ((b,o')::r):=h.obj rfl
structure Hc where
 id:Int
 b:Nat
 proto:Int
variable {c:Hc}{a:List Hc}
structure Tc where
 id:Int
 b:Nat
 on:Bool
abbrev J2o (c:Hc):Obj:=.cells #[.int .i64 c.proto,.string ByteArray.empty] 49 (0,0)
abbrev J25 (c:Tc):Obj:=.cells #[.bool c.on,.bool false,.bool false,.bool false,.bool false,.int .i64 0,.slice none 0 0,.int .i64 0] 88 (0,0)
def Hc.ib (c:Hc):Int×Nat:=(c.id,c.b)
def Tc.ib (c:Tc):Int×Nat:=(c.id,c.b)
def J3d (l:List Hc):Hp:=l.map fun c=>(c.b,J2o c)
def J3e (l:List Tc):Hp:=l.map fun c=>(c.b,J25 c)
theorem J8i (l:List Hc):(l.map Hc.ib).map Prod.fst=l.map Hc.id:=by simp[Hc.ib,Function.comp_def]
theorem Jc5 (l:List Tc):(l.map Tc.ib).map Prod.fst=l.map Tc.id:=by simp[Tc.ib,Function.comp_def]
theorem J4r (a b:List Hc):J3d (a++b)=J3d a++J3d b:=by simp[J3d]
theorem J54 (a b:List Tc):J3e (a++b)=J3e a++J3e b:=by simp[J3e]
theorem Jak (c:Hc) (b:List Hc):J3d (c::b)=(c.b,J2o c)::J3d b:=rfl
theorem Jaz (c:Tc) (b:List Tc):J3e (c::b)=(c.b,J25 c)::J3e b:=rfl
abbrev J3y:Obj:=.cells #[.string ByteArray.empty,.bool false,.int .i64 0,.slice none 0 0,.int .i64 0] 169 (0,0)
def J5o (l:Hp) (pb:Nat):Prop:=∃tb rm om ro oo,l=[(pb,.cells #[ptr tb,.map (some rm),.int .i64 0,.map (some om)] 125 (0,0)),(tb,J3y),(rm,ro),(om,oo)]/\K8 ro []/\K8 oo []
inductive KSt
 |none
 |one (key:ByteArray) (id:Int)
variable {K:KSt}
def KSt.keys:KSt->List ByteArray
 | .none=>[]
 | .one k _=>[k]
def Jmx (K:KSt) (ro qo:Obj) (x:Hp):Prop:=match K with
 | .none=>Kz ro []/\K8 qo []/\x=[]
 | .one k id=>∃g c rest mb mo,Kz ro [(k,.slice (some ⟨g,0,Option.none⟩) 1 c)]/\K8 qo [(id,.map (some mb))]/\Kz mo [(k,.int .i64 1)]/\x=[(g,.cells ([.int .i64 id]++rest).toArray 3 (0,0)),(mb,mo)]
def J2l (l:Hp) (kb:Nat) (K:KSt):Prop:=
 ∃rb rl rm ro qm qo x,l=(kb,.cells #[ptr rb,.map (some rm),.map (some qm),.int .i64 10] 119 (0,0))::(rm,ro)::(qm,qo)::(rl++x)/\Jj rl rb K.keys/\Jmx K ro qo x
structure Hu where
 hb:Nat
 hm:Nat
 tb:Nat
 tm:Nat
 sto:Nat
 kb:Nat
 pb:Nat
 ho:Obj
 tmo:Obj
 hs:List Hc
 ts:List Tc
 kl:Hp
 pl:Hp
 sl:Hp
variable {s:Hu}
abbrev J1r (s:Hu):Obj:=.cells #[ptr s.sto,ptr s.tb,.map (some s.hm)] 46 (0,0)
abbrev J1s (s:Hu):Obj:=.cells #[.map (some s.tm),ptr s.kb,ptr s.pb] 83 (0,0)
def Hu.hp (s:Hu):Hp:=(s.hb,J1r s)::(s.hm,s.ho)::(s.tb,J1s s)::(s.tm,s.tmo)::(J3d s.hs++(J3e s.ts++(s.kl++(s.pl++s.sl))))
structure Hu.Ok (s:Hu) (K:KSt) (S:St):Prop where
 hm:K8 s.ho (J1t (s.hs.map Hc.ib))
 tm:K8 s.tmo (J1t (s.ts.map Tc.ib))
 hn:(s.hs.map Hc.id).Nodup
 tn:s.ts.map Tc.id=s.hs.map Hc.id
 ks:J2l s.kl s.kb K
 pr:J5o s.pl s.pb
 st:Je s.sl s.sto S
structure HuC (w:World) (s:Hu):Prop where
 h0:w.cell? ⟨s.hb,0,none⟩=some (ptr s.sto)
 h1:w.cell? ⟨s.hb,1,none⟩=some (ptr s.tb)
 h2:w.cell? ⟨s.hb,2,none⟩=some (.map (some s.hm))
 t0:w.cell? ⟨s.tb,0,none⟩=some (.map (some s.tm))
 t1:w.cell? ⟨s.tb,1,none⟩=some (ptr s.kb)
 t2:w.cell? ⟨s.tb,2,none⟩=some (ptr s.pb)
 mh:w.heap[s.hm]? =some s.ho
 mt:w.heap[s.tm]? =some s.tmo
 hc:∀c∈s.hs,w.heap[c.b]? =some (J2o c)
 tc:∀c∈s.ts,w.heap[c.b]? =some (J25 c)
 ok:Own w s.kl
 op:Own w s.pl
 os:Own w s.sl
theorem huC (h:Own w (s.hp++r)):HuC w s:=by
 have b:Own w ((s.hb,J1r s)::(s.hm,s.ho)::(s.tb,J1s s)::(s.tm,s.tmo)::(J3d s.hs++(J3e s.ts++(s.kl++(s.pl++s.sl))))):=h.left;have c:=b.tail.tail.tail.tail
 exact⟨J0 b.head 0,J0 b.head 1,J0 b.head 2,J0 b.tail.tail.head 0,J0 b.tail.tail.head 1,J0 b.tail.tail.head 2,
  b.tail.head,b.tail.tail.tail.head,
  fun x hx=>c.left.at_ (x.b,J2o x) (List.mem_map.2 ⟨x,hx,rfl⟩),fun x hx=>c.right.left.at_ (x.b,J25 x) (List.mem_map.2 ⟨x,hx,rfl⟩),c.right.right.left,c.right.right.right.left,c.right.right.right.right⟩
theorem K6 (s:Hu) (r:Hp) (f:Nat×Obj->Nat):((s.hp++r).map f).sum=f (s.hb,J1r s)+f (s.hm,s.ho)+f (s.tb,J1s s)+f (s.tm,s.tmo)+((J3d s.hs).map f).sum+((J3e s.ts).map f).sum+(s.kl.map f).sum+(s.pl.map f).sum+(s.sl.map f).sum+(r.map f).sum:=by
 simp only[Hu.hp,List.map_append,List.sum_append,List.map_cons,List.sum_cons];omega
theorem Jkn (ho:Own w (s.hp++r)) (hO:s.Ok K S) (hc:c∈s.hs):(Instr.lookup 44 (.map (some s.hm)) (.int .i64 c.id) false).run Tryz.prog w= .ok (ptr c.b) w:=
 Jfr (t:=44) Tryz.underlying44 Jk7 (huC ho).mh hO.hm (by rw[J8i];exact hO.hn) (List.mem_map.2 ⟨c,hc,rfl⟩)
theorem Jfi (ho:Own w (s.hp++r)) (hO:s.Ok K S) (hc:id∉s.hs.map Hc.id):(Instr.lookup 44 (.map (some s.hm)) (.int .i64 id) false).run Tryz.prog w= .ok (.pointer none) w:=
 Jj9 (t:=44) Tryz.underlying44 Jk7 (huC ho).mh hO.hm (by rw[J8i];exact hc)
theorem J6p (ho:Own w (s.hp++r)) (hO:s.Ok K S) {c:Tc} (hc:c∈s.ts):(Instr.lookup 77 (.map (some s.tm)) (.int .i64 c.id) false).run Tryz.prog w= .ok (ptr c.b) w:=
 Jfr (t:=77) Tryz.underlying77 Jk9 (huC ho).mt hO.tm (by rw[Jc5,hO.tn];exact hO.hn) (List.mem_map.2 ⟨c,hc,rfl⟩)
theorem J1.hcOut {b:List Hc} (h:J1 w0 l w (s.hp++r)) (hc:s.hs=a++c::b):J1 w0 l w ((c.b,J2o c)::(({s with hs:=a++b}:Hu).hp++r)):=
 h.permR (J2 fun f=>by
  rw[List.map_cons,List.sum_cons,K6,K6,hc];simp only[J1r,J1s,J4r,Jak,List.map_append,List.sum_append,List.map_cons,List.sum_cons];omega)
theorem J1.hcBack {b:List Hc} (h:J1 w0 l w ((c.b,J2o c)::(({s with hs:=a++b}:Hu).hp++r))):J1 w0 l w (({s with hs:=a++c::b}:Hu).hp++r):=
 h.permR (J2 fun f=>by
  rw[List.map_cons,List.sum_cons,K6,K6];simp only[J1r,J1s,J4r,Jak,List.map_append,List.sum_append,List.map_cons,List.sum_cons];omega)
theorem J1.tcOut {a b:List Tc} {c:Tc} (h:J1 w0 l w (s.hp++r)) (hc:s.ts=a++c::b):J1 w0 l w ((c.b,J25 c)::(({s with ts:=a++b}:Hu).hp++r)):=
 h.permR (J2 fun f=>by
  rw[List.map_cons,List.sum_cons,K6,K6,hc];simp only[J1r,J1s,J54,Jaz,List.map_append,List.sum_append,List.map_cons,List.sum_cons];omega)
theorem J1.tcBack {a b:List Tc} {c:Tc} (h:J1 w0 l w ((c.b,J25 c)::(({s with ts:=a++b}:Hu).hp++r))):J1 w0 l w (({s with ts:=a++c::b}:Hu).hp++r):=
 h.permR (J2 fun f=>by
  rw[List.map_cons,List.sum_cons,K6,K6];simp only[J1r,J1s,J54,Jaz,List.map_append,List.sum_append,List.map_cons,List.sum_cons];omega)
theorem Hu.Ok.hcSame {b:List Hc} {c':Hc} (h:s.Ok K S) (hc:s.hs=a++c::b) (h1:c'.id=c.id) (h2:c'.b=c.b):({s with hs:=a++c'::b}:Hu).Ok K S:=by
 have e1:(a++c'::b).map Hc.ib=s.hs.map Hc.ib:=by rw[hc];simp[Hc.ib,h1,h2]
 have e2:(a++c'::b).map Hc.id=s.hs.map Hc.id:=by rw[hc];simp[h1]
 exact⟨by show K8 s.ho (J1t ((a++c'::b).map Hc.ib));rw[e1];exact h.hm,h.tm,by show((a++c'::b).map Hc.id).Nodup;rw[e2];exact h.hn,by show s.ts.map Tc.id=(a++c'::b).map Hc.id;rw[e2];exact h.tn,h.ks,h.pr,h.st⟩
theorem Hu.Ok.tcSame {a b:List Tc} {c c':Tc} (h:s.Ok K S) (hc:s.ts=a++c::b) (h1:c'.id=c.id) (h2:c'.b=c.b):({s with ts:=a++c'::b}:Hu).Ok K S:=by
 have e1:(a++c'::b).map Tc.ib=s.ts.map Tc.ib:=by rw[hc];simp[Tc.ib,h1,h2]
 have e2:(a++c'::b).map Tc.id=s.ts.map Tc.id:=by rw[hc];simp[h1]
 exact⟨h.hm,by show K8 s.tmo (J1t ((a++c'::b).map Tc.ib));rw[e1];exact h.tm,h.hn,by show(a++c'::b).map Tc.id=s.hs.map Hc.id;rw[e2];exact h.tn,h.ks,h.pr,h.st⟩
theorem J1.ksOut (h:J1 w0 l w (s.hp++r)):J1 w0 l w (s.kl++(({s with kl:=[]}:Hu).hp++r)):=
 h.permR (J2 fun f=>by
  rw[K6,List.map_append,List.sum_append,K6];show _=(s.kl.map f).sum+(f (s.hb,J1r s)+f (s.hm,s.ho)+f (s.tb,J1s s)+f (s.tm,s.tmo)+((J3d s.hs).map f).sum+((J3e s.ts).map f).sum+0+(s.pl.map f).sum+(s.sl.map f).sum+(r.map f).sum)
  omega)
theorem J1.ksBack {kl:Hp} (h:J1 w0 l w (kl++(({s with kl:=[]}:Hu).hp++r))):J1 w0 l w (({s with kl:=kl}:Hu).hp++r):=
 h.permR (J2 fun f=>by
  rw[List.map_append,List.sum_append,K6,K6];show(kl.map f).sum+(f (s.hb,J1r s)+f (s.hm,s.ho)+f (s.tb,J1s s)+f (s.tm,s.tmo)+((J3d s.hs).map f).sum+((J3e s.ts).map f).sum+0+(s.pl.map f).sum+(s.sl.map f).sum+(r.map f).sum)=f (s.hb,J1r s)+f (s.hm,s.ho)+f (s.tb,J1s s)+f (s.tm,s.tmo)+((J3d s.hs).map f).sum+((J3e s.ts).map f).sum+(kl.map f).sum+(s.pl.map f).sum+(s.sl.map f).sum+(r.map f).sum
  omega)
theorem J1.slOut (h:J1 w0 l w (s.hp++r)):J1 w0 l w (s.sl++(({s with sl:=[]}:Hu).hp++r)):=
 h.permR (J2 fun f=>by
  rw[K6,List.map_append,List.sum_append,K6];show _=(s.sl.map f).sum+(f (s.hb,J1r s)+f (s.hm,s.ho)+f (s.tb,J1s s)+f (s.tm,s.tmo)+((J3d s.hs).map f).sum+((J3e s.ts).map f).sum+(s.kl.map f).sum+(s.pl.map f).sum+0+(r.map f).sum)
  omega)
theorem J1.slBack {sl:Hp} (h:J1 w0 l w (sl++(({s with sl:=[]}:Hu).hp++r))):J1 w0 l w (({s with sl:=sl}:Hu).hp++r):=
 h.permR (J2 fun f=>by
  rw[List.map_append,List.sum_append,K6,K6];show(sl.map f).sum+(f (s.hb,J1r s)+f (s.hm,s.ho)+f (s.tb,J1s s)+f (s.tm,s.tmo)+((J3d s.hs).map f).sum+((J3e s.ts).map f).sum+(s.kl.map f).sum+(s.pl.map f).sum+0+(r.map f).sum)=f (s.hb,J1r s)+f (s.hm,s.ho)+f (s.tb,J1s s)+f (s.tm,s.tmo)+((J3d s.hs).map f).sum+((J3e s.ts).map f).sum+(s.kl.map f).sum+(s.pl.map f).sum+(sl.map f).sum+(r.map f).sum
  omega)
theorem Jfk:(Tryz.prog.info? 3).map (fun i=>(i.zero,i.size,i.bytes))=some (some (.int .i64 0),1,8):=by kernel_rfl
abbrev J0b (id:Int) (rest:List Value):Obj:=.cells (Value.int .i64 id::rest).toArray 3 (0,0)
def J58 (w0:World) (r:Hp) (id:Int) (e:Ending) (w':World):Prop:=∃g c rest,e= .returned (.slice (some ⟨g,0,none⟩) 1 c)/\1<=c/\J1 w0 [] w' ((g,J0b id rest)::r)
theorem Jj4 (hS:J1 w0 [] w r) {c0:Nat} (hb:w.cell? ⟨b,off,none⟩=some (.int .i64 id)) (ty:TypeId):
 ∃g c rest w',(Builtin.append_ #[73,73] ty #[.slice none 0 0,.slice (some ⟨b,off,none⟩) 1 c0]).run Tryz.prog w= .ok (.slice (some ⟨g,0,none⟩) 1 c) w'/\1<=c/\J1 w0 [] w' ((g,J0b id rest)::r):=by
 obtain⟨v',w',sl',hrun,hsl,S2,_⟩:=J0c (P:=Tryz.prog) (ty:=ty) (t:=73) (t2:=73) (e:=3) (e2:=3) Tryz.underlying73 Tryz.underlying73 Jfk rfl (by decide) (sl:=[]) (xs:=[]) (n:=0) hS .nil ⟨b,off,none⟩ 1 c0 [.int .i64 id] rfl (fun j u hu=>by
  cases j with
  |zero=>simp at hu;subst hu;exact hb
  |succ j=>simp at hu) (fun u hu=>by simp at hu;subst hu;rfl) (by omega) (by omega) (by unfold maxLen;omega)
 cases hsl with
 |laid g n cap xs rest hx hr hn hc=>exact⟨g,cap,rest,w',hrun,hn,S2⟩
theorem Jcq (id:Int) (w:World):Calls Tryz.prog 192 #[.slice none 0 0,.int .i64 id] w fun e w'=>e= .returned (.tuple #[.int .i64 0,.bool false])/\w'=w:=by
 go_enter Tryz.func192,Tryz.ntmps192;go_wp2_with fail;refine wp_loop_rounds 1 ?_;rw[rounds_succ];go_wp2_with fail;go_ret2;exact⟨rfl,rfl⟩
theorem Jeq (hS:J1 w0 [] w r) {c0:Nat} (hb:w.cell? ⟨b,off,none⟩=some (.int .i64 id)):
 Calls Tryz.prog 193 #[.slice none 0 0,.int .i64 0,.slice (some ⟨b,off,none⟩) 1 c0] w (J58 w0 r id):=by
 obtain⟨g,c,rest,w',hrun,hc,S1⟩:=Jj4 (c0:=c0) hS hb 73
 have hdone:=hid (show J58 w0 r id (.returned (.slice (some ⟨g,0,none⟩) 1 c)) w' from⟨g,c,rest,rfl,hc,S1⟩);replace hrun:=hid hrun;clear hS hb hc S1;go_enter Tryz.func193,Tryz.ntmps193;go_wp2_with (at_builtin;refine Jh rfl _ _ _ _ rfl _ _ rfl rfl hrun.out ?_);go_ret;exact hdone.out
theorem Jk6 (hS:J1 w0 [] w r) (id:Int):Calls Tryz.prog 126 #[.slice none 0 0,.int .i64 id] w (J58 w0 r id):=by
 have hb:=hid (Jcq id w);have S1:=hS.alloc (.cells #[.int .i64 id] 3);have hi:=hid (Jeq (c0:=1) (S1.less (List.sublist_cons_self _ _)) (J0 S1.own.head 0));clear hS S1;go_enter Tryz.func126,Tryz.ntmps126;go_wp2_with fail;refine hb.out.mono ?_;rintro e w1 ⟨rfl,rfl⟩;clear hb;go_wp2_with fail;refine hi.out.mono ?_;rintro e w2 ⟨g,c,rest,rfl,hc,S2⟩;have hdone:=hid (show J58 w0 r id (.returned (.slice (some ⟨g,0,none⟩) 1 c)) w2 from⟨g,c,rest,rfl,hc,S2⟩);clear hi hc S2;go_wp2_with fail;go_ret;exact hdone.out
theorem Jab (w:World):Calls Tryz.prog 121 #[.int .u64 0] w fun e w'=>(∃n,e= .returned (.int .i64 n))/\w'=w:=by
 go_enter Tryz.func121,Tryz.ntmps121;go_wp2
 go_ret;exact⟨⟨_,rfl⟩,rfl⟩
abbrev onB:ByteArray:=⟨#[79,78]⟩
def J0g (on:Bool):Value:=.agg #[.bool on,.bool false,.bool false,.bool false,.bool false,.int .i64 0,.slice none 0 0]
abbrev Kr (on:Bool):Obj:=.cells #[.bool on,.bool false,.bool false,.bool false,.bool false,.int .i64 0,.slice none 0 0] 86 (0,0)
theorem Jfy (c:Int) (hc:c<97) (w:World):Calls Tryz.prog 272 #[.int .i32 c] w fun e w'=>e= .returned (.int .i32 c)/\w'=w:=by
 have h1:¬97<=c:=by omega
 go_enter Tryz.func272,Tryz.ntmps272;go_wp2_with fail;go_ret;exact⟨rfl,rfl⟩
theorem Jhw (h:w.cell? ⟨b,1,none⟩=some (.slice none 0 0)):Calls Tryz.prog 87 #[ptr b] w fun e w'=>e= .returned (.int .i64 0)/\w'=w:=by
 go_enter Tryz.func87,Tryz.ntmps87;go_wp2_with fail;go_ret;exact⟨rfl,rfl⟩
theorem Jma (hS:J1 w0 [] w r):Calls Tryz.prog 55 #[.func (.func 272) #[] #[],.string onB] w (Ji w0 r (.string onB)):=by
 have ho:=fun w=>hid (Jfy 79 (by omega) w)
 have hn:=fun w=>hid (Jfy 78 (by omega) w)
 replace ho:=hid ho;replace hn:=hid hn;have S1:=hS.alloc (.cells #[.pointer none,.slice none 0 0] 132);clear hS;go_enter Tryz.func55,Tryz.ntmps55;go_wp2_with fail;have hsz:w.heap.size+1=(w.alloc (.cells #[.pointer none,.slice none 0 0] 132)).heap.size:=by simp
 rw[hsz];clear hsz;generalize w.alloc (.cells #[.pointer none,.slice none 0 0] 132)=wb at S1⊢;have n0:(Instr.next (.pointer (some ⟨wb.heap.size,0,none⟩)) true 0).run Tryz.prog (wb.iter onB 0)= .ok (.tuple #[.bool true,.int .i64 0,.int .i32 79]) (wb.iter onB 1):=run_next_ascii wb onB 0 0 (by decide) (by decide)
 have n1:(Instr.next (.pointer (some ⟨wb.heap.size,0,none⟩)) true 0).run Tryz.prog (wb.iter onB 1)= .ok (.tuple #[.bool true,.int .i64 1,.int .i32 78]) (wb.iter onB 2):=run_next_ascii wb onB 1 0 (by decide) (by decide)
 have n2:(Instr.next (.pointer (some ⟨wb.heap.size,0,none⟩)) true 0).run Tryz.prog (wb.iter onB 2)= .ok (.tuple #[.bool false]) (wb.iter onB 2):=run_next_end wb onB 2 0 (by decide)
 have hcap:=hid (Jhw (w:=wb.iter onB 2) (b:=w.heap.size) (J0 (S1.alloc (.stringIter onB 2)).own.tail.head 1));have S2:=hid ((S1.alloc (.stringIter onB 2)).less ((List.sublist_cons_self _ _).trans (List.sublist_cons_self _ _)));clear S1;refine wp_loop_rounds 3 ?_;rw[rounds_succ];go_wp2_with fail;refine(ho.out _).out.mono ?_
 rintro e w1 ⟨rfl,rfl⟩;go_wp2_with fail;rw[rounds_succ];go_wp2_with fail;refine(hn.out _).out.mono ?_
 rintro e w1 ⟨rfl,rfl⟩;go_wp2_with fail;rw[rounds_succ];go_wp2_with fail;refine hcap.out.mono ?_;rintro e w1 ⟨rfl,rfl⟩;go_wp2_with fail;go_ret;exact⟨rfl,S2.out⟩
theorem Jjx (hS:J1 w0 [] w r):Calls Tryz.prog 211 #[.string onB] w (Ji w0 r (.string onB)):=by
 have h:=hid (Jma hS);clear hS;go_enter Tryz.func211,Tryz.ntmps211;go_wp2_with fail;refine h.out.mono ?_;rintro e w1 ⟨rfl,S1⟩;replace S1:=hid S1;clear h;go_wp2_with fail;go_ret;exact⟨rfl,S1.out⟩
theorem Jdr (hS:J1 w0 [] w r):Calls Tryz.prog 127 #[J0g true] w (Ji w0 r (.bool true)):=by
 have S1:=hid ((hS.alloc (Kr true)).less (List.sublist_cons_self _ _));clear hS;unfold J0g;go_enter Tryz.func127,Tryz.ntmps127;go_wp2_with fail;go_ret;exact⟨rfl,S1.out⟩
theorem Jf2 (w:World):Calls Tryz.prog 209 #[.slice none 0 0] w fun e w'=>e= .returned (.slice none 0 0)/\w'=w:=by
 have heq:∀w,(binOp .eql 50 (.slice none 0 0) (.slice none 0 0)).run Tryz.prog w= .ok (.bool true) w:=fun w=>by kernel_rfl
 go_enter Tryz.func209,Tryz.ntmps209;go_wp2_with fail;go_ret;exact⟨rfl,rfl⟩
theorem Jnd (o0 o1 o2 o3 o4 o5 o6 v0 v1 v2 v3 v4 v5 v6:Value):(((((((#[o0,o1,o2,o3,o4,o5,o6]:Array Value).setIfInBounds 0 v0).setIfInBounds 1 v1).setIfInBounds 2 v2).setIfInBounds 3 v3).setIfInBounds 4 v4).setIfInBounds 5 v5).setIfInBounds 6 v6= #[v0,v1,v2,v3,v4,v5,v6]:=by kernel_rfl
theorem J1.setMd {o0 o1 o2 o3 o4 o5 o6:Value} {t:TypeId} (h:J1 w0 l w ((b,.cells #[o0,o1,o2,o3,o4,o5,o6] t (0,0))::r)) (v0 v1 v2 v3 v4 v5 v6:Value):
 J1 w0 l (((((((w.setCell ⟨b,0,none⟩ v0).setCell ⟨b,1,none⟩ v1).setCell ⟨b,2,none⟩ v2).setCell ⟨b,3,none⟩ v3).setCell ⟨b,4,none⟩ v4).setCell ⟨b,5,none⟩ v5).setCell ⟨b,6,none⟩ v6) ((b,.cells #[v0,v1,v2,v3,v4,v5,v6] t (0,0))::r):=by
 have k:=((((((h.set 0 v0).set 1 v1).set 2 v2).set 3 v3).set 4 v4).set 5 v5).set 6 v6;rw[Jnd] at k;exact k
theorem Jfg (hS:J1 w0 [] w r) (on:Bool):Calls Tryz.prog 132 #[J0g on] w (Ji w0 r (J0g on)):=by
 have S3:=hid ((hS.alloc (Kr on)).alloc (Kr on));have hcl:=fun w=>hid (Jf2 w)
 replace hcl:=hid hcl;clear hS;unfold J0g;go_enter Tryz.func132,Tryz.ntmps132;go_wp2_with fail;refine(hcl.out _).out.mono ?_
 rintro e w1 ⟨rfl,rfl⟩;go_wp2_with fail;clear hcl;refine bodyPost_ret (v:=J0g on) (by simp[results,Tryz.results132,go_sem,J0g, *]<;>rfl) rfl ?_
 exact⟨rfl,S3.out.less ((List.sublist_cons_self _ _).trans (List.sublist_cons_self _ _))⟩
theorem Jhh (hS:J1 w0 [] w r) (on:Bool):Calls Tryz.prog 70 #[J0g on,.int .i64 0] w (Ji w0 r (.bool on)):=by
 have S1:=hid ((hS.alloc (Kr on)).less (List.sublist_cons_self _ _));clear hS;unfold J0g;cases on
 ·go_enter Tryz.func70,Tryz.ntmps70
  go_wp2_with fail;go_ret;exact⟨rfl,S1.out⟩
 ·go_enter Tryz.func70,Tryz.ntmps70
  go_wp2_with fail;go_ret;exact⟨rfl,S1.out⟩
theorem Jhx (c:Int) (f:Value) (w:World):Calls Tryz.prog 244 #[.slice none 0 0,.int .u8 c,f] w fun e w'=>e= .returned (.tuple #[.int .i64 0,.bool false])/\w'=w:=by
 go_enter Tryz.func244,Tryz.ntmps244;go_wp2_with fail;refine wp_loop_rounds 1 ?_;rw[rounds_succ];go_wp2_with fail;go_ret2;exact⟨rfl,rfl⟩
theorem Jgu (c:Int) (h3:w.cell? ⟨b,3,none⟩=some (.slice none 0 0)):Calls Tryz.prog 178 #[ptr b,.int .u8 c] w fun e w'=>e= .returned (.tuple #[.int .i64 0,.bool false])/\w'=w:=by
 have h:=fun f w=>hid (Jhx c f w)
 replace h:=hid h;go_enter Tryz.func178,Tryz.ntmps178;go_wp2_with fail;refine(h.out _ _).out.mono ?_
 rintro e w1 ⟨rfl,rfl⟩;go_wp2_with fail;go_ret2;exact⟨rfl,rfl⟩
theorem Jkd (h:w.heap[b]? =some J3y):Calls Tryz.prog 119 #[ptr b,.string ⟨#[107]⟩] w fun e w'=>e= .returned (.slice none 0 0)/\w'=w:=by
 have h1:w.cell? ⟨b,1,none⟩=some (.bool false):=J0 h 1;have hp:=hid (Jgu (w:=w) (b:=b) 107 (J0 h 3));clear h;go_enter Tryz.func119,Tryz.ntmps119;go_wp2_with fail;refine wp_loop_rounds 1 ?_;rw[rounds_succ];go_wp2_with fail;refine hp.out.mono ?_;rintro e w1 ⟨rfl,rfl⟩;clear hp;go_wp2_with fail;go_ret;exact⟨rfl,rfl⟩
end Go.Proofs.YtefjbegnlolgbaaGreatDoor
