/-
session: exec.Run at a hub's store: GET and SET; append of no notices to none.
-/
import Derived.Test.YtefjbegnlolgbaaGreatDoorQ27
set_option linter.unusedVariables false
set_option linter.unusedSimpArgs false
set_option maxRecDepth 100000
set_option maxHeartbeats 8000000
namespace Go.Proofs.YtefjbegnlolgbaaGreatDoor
open Go Go.RowKit
def Jop (w0:World) (s:Hu) (r:Hp) (K:KSt) (p:St×Lf) (e:Ending) (w':World):Prop:=∃la lc ev el l',e= .returned (.tuple #[J3 p.2.kind p.2.text p.2.n (.slice la 0 lc),ev])/\SliceHp 2 146 ev p.1.ev.length (J1w p.1.ev) el/\({s with sl:=l'}:Hu).Ok K {p.1 with ev:=[]}/\J1 w0 [] w' (({s with sl:=l'}:Hu).hp++(el++r))
section
variable {w0 w:World} {s:Hu} {r:Hp} {K:KSt} {S:St} {g:Nat} {c k m:ByteArray}
theorem Jow {ws:List ByteArray} (hS:J1 w0 [] w (s.hp++r)) (hO:s.Ok K S) (hG:J1q w0) (hT:J00 S/\S.load<=1000000000000) (hA:J4l w0 r g 0 ws):Ctx w0 w s.sl (({s with sl:=[]}:Hu).hp++r) s.sto S g 0 ws:=
 ⟨hS.slOut,hG,hO.st,hT.1,hT.2,hA.more⟩
theorem Jox {p:St×Lf} {e:Ending} {w':World} (hO:s.Ok K S) (h:J6y w0 (({s with sl:=[]}:Hu).hp++r) s.sto (·=J6m p) e w'):Jop w0 s r K p e w':=by
 obtain⟨_,rfl,la,lc,ev,xl,el,l',rfl,hxl,hev,hX,S2⟩:=h
 refine⟨la,lc,ev,el,l',rfl,hev,⟨hO.hm,hO.tm,hO.hn,hO.tn,hO.ks,hO.pr,hX⟩,?_⟩
 have S3:=S2.pick (l2:=l'++(({s with sl:=[]}:Hu).hp++(el++r))) (m:=xl) (J2 fun f=>by simp only[SC];omega)
 exact S3.slBack
theorem Jpx (hS:J1 w0 [] w (s.hp++r)) (hO:s.Ok K S) (hG:J1q w0) (hT:J00 S/\S.load<=1000000000000) (hA:J4l w0 r g 0 [c,k]) (hc:J0k [c,k]=(J7y,ByteArray.empty)):
 Calls Tryz.prog 34 #[ptr s.sto,.int .i64 0,.slice (some ⟨g,0,none⟩) 2 2] w (Jop w0 s r K (Jha S 0 k)):=
 ((⟨Jow hS hO hG hT hA,hc,by kernel_rfl,by omega,Nat.le_refl _,by simp,by simp⟩:KC w0 w s.sl (({s with sl:=[]}:Hu).hp++r) s.sto S g 0 c [k] J7y 0 2).text (P:=(·=J6m (Jha S 0 k))) (.inr ⟨by kernel_rfl,rfl⟩)).mono fun _ _ h=>Jox hO h
theorem Jpy (hS:J1 w0 [] w (s.hp++r)) (hO:s.Ok K S) (hG:J1q w0) (hT:J00 S/\S.load<=1000000000000) (hA:J4l w0 r g 0 [c,k,m]) (hc:J0k [c,k,m]=(Jje,ByteArray.empty)):
 Calls Tryz.prog 34 #[ptr s.sto,.int .i64 0,.slice (some ⟨g,0,none⟩) 3 3] w (Jop w0 s r K (J8b S 0 k m [])):=
 ((⟨Jow hS hO hG hT hA,hc,by kernel_rfl,by omega,Nat.le_refl _,by simp,by simp⟩:KC w0 w s.sl (({s with sl:=[]}:Hu).hp++r) s.sto S g 0 c [k,m] Jje 0 3).text (P:=(·=J6m (J8b S 0 k m [])))
   (.inl ⟨_,fun j=>#[j],List.mem_of_getElem? (i:=0) (by kernel_rfl),fun w' R C=>(Jc1 C 0 (by omega) 2 (by simp) (by decide)).mono fun _ _ hp=>.is hp⟩)).mono fun _ _ h=>Jox hO h
end
def Jpc (w0:World) (r:Hp) (Q:Value->Hp->Prop) (e:Ending) (w':World):Prop:=∃kd tx nn a n c na nn' nc X,e= .returned (.tuple #[J3 kd tx nn (.slice a n c),.slice na nn' nc])/\Q (.slice na nn' nc) X/\J1 w0 [] w' (X++r)
def Jpp (s:Hu) (T:St) (id:Int) (lv:Value) (X:Hp):Prop:=∃l kl,({s with sl:=l,kl:=kl}:Hu).Ok (.one kB id) T/\X=({s with sl:=l,kl:=kl}:Hu).hp
theorem SliceHp.form0 {T:TypeId} {v:Value} {k n:Nat} {xs:List Value} {l:Hp} (h:SliceHp k T v n xs l):∃a c,v= .slice a n c:=by
 obtain⟨a,c,h,_,_⟩:=h.form
 exact⟨a,c,h⟩
theorem Jpf {w0 w:World} {s:Hu} {r:Hp} {S:St} (hS:J1 w0 [] w (s.hp++r)) (hO:s.Ok .none S) {id:Int} {cb:Nat} {t:Tc} (ht:t∈s.ts) (hti:t.id=id) (hon:t.on=true) {g:Nat} {args:Value} (hA:J4l w0 r g 0 [Jm2,kB]) (hG:J1q w0) (hT:J00 S/\S.load<=1000000000000)
 (hev:(Jha S 0 kB).1.ev=[]) (hk2:(Jha S 0 kB).2.kind≠2):
 Calls Tryz.prog 20 #[J0o s.hb cb id args,.int .i64 0,.int .i64 1,.slice (some ⟨g,0,none⟩) 2 2] w (Jpc w0 r (Jpp s {(Jha S 0 kB).1 with ev:=[]} id)):=by
 have S1:=hS.ask (J09 s.hb cb id args);obtain⟨w1,hw1⟩:∃w1,w1=(w.alloc (J09 s.hb cb id args)).alloc J5:=⟨_,rfl⟩
 rw[<-hw1] at S1;generalize hb0:w.heap.size=b0 at S1;have hA1:J4l w0 ((b0+1,J5)::(b0,J09 s.hb cb id args)::r) g 0 [Jm2,kB]:=hA.more (x:=[_,_]);have hrun:=hid (Jpx S1 hO hG hT hA1 (by unfold J0k;kernel_rfl))
 have c0:w1.cell? ⟨s.hb,0,none⟩=some (ptr s.sto):=(huC S1.own).h0;have a0:w1.cell? ⟨b0,0,none⟩=some (ptr s.hb):=(J3i S1.own).a0;obtain⟨hb,hhb⟩:∃hb,hb=s.hb:=⟨_,rfl⟩
 obtain⟨tb,htb⟩:∃tb,tb=s.tb:=⟨_,rfl⟩
 generalize hp:Jha S 0 kB=p at hrun hev hk2⊢;obtain⟨kd,hkd⟩:∃kd,kd=p.2.kind:=⟨_,rfl⟩
 rw[<-hkd] at hk2;rw[<-hhb] at c0 a0 hw1 S1 hA1⊢;replace hO:=hid hO;replace hhb:=hid hhb;replace htb:=hid htb;replace hkd:=hid hkd;replace hA:=hid hA;replace ht:=hid ht;replace hti:=hid hti;replace hon:=hid hon;replace hev:=hid hev;replace hp:=hid hp;clear hG hT hS S1 hA1;unfold J0o;go_enter Tryz.func20,Tryz.ntmps20;go_upto_region 1 with fail;generalize hw2:(w.alloc _).alloc _=w2;obtain rfl:w1=w2:=hw1.trans hw2;try rw[hb0]
 clear hw1 hw2 hb0;go_wp2_with fail;refine hrun.out.mono ?_;rintro e w3 ⟨la,lc,ev,el,l',rfl,hevs,hO2,S2⟩;clear hrun c0 a0;rw[hev.out] at hevs;obtain⟨ea,ec,rfl⟩:=hevs.form0
 rw[<-hkd.out];generalize p.2.text=tx;generalize p.2.n=nn;obtain⟨s2,hs2⟩:∃s2:Hu,s2={s with sl:=l'}:=⟨_,rfl⟩
 rw[<-hs2] at hO2 S2;have S3:=S2.alloc (J1b kd tx nn (.slice la 0 lc));obtain⟨w4,hw4⟩:∃w4,w4=w3.alloc (J1b kd tx nn (.slice la 0 lc)):=⟨_,rfl⟩
 rw[<-hw4] at S3;generalize hb10:w3.heap.size=b10 at S3;obtain⟨R,hR⟩:∃R:Hp,R=s2.hp++((b0+1,J5)::(b0,J09 hb cb id args)::((b10,J1b kd tx nn (.slice la 0 lc))::(el++r))):=⟨_,rfl⟩
 have S4:J1 w0 [] w4 R:=hR▸S3.permR (J2 fun f=>by rw[hhb.out];simp only[SC];omega)
 have hown:∀w' x,J1 w0 [] w' (x++R)->Own w' (s2.hp++((b0+1,J5)::(b0,J09 hb cb id args)::((b10,J1b kd tx nn (.slice la 0 lc))::(el++r)))):=fun w' x h=>hR▸h.own.right
 have x0:∀p:InW w0 [] R,p.w.cell? ⟨b0,0,none⟩=some (ptr hb):=fun p=>(J3i (hown _ [] p.h)).a0
 have x2:∀p:InW w0 [] R,p.w.cell? ⟨b0,2,none⟩=some (.int .i64 id):=fun p=>(J3i (hown _ [] p.h)).a2
 have y1:∀p:InW w0 [] R,p.w.cell? ⟨hb,1,none⟩=some (ptr tb):=fun p=>by have:=(huC (hown _ [] p.h)).h1;rw[hs2] at this;rw[hhb.out,htb.out];exact this
 replace S4:=hid S4;replace hR:=hid hR;replace hown:=hid hown;replace hO2:=hid hO2;replace hs2:=hid hs2;clear S2 S3 hevs;unfold J3;go_upto_region 2 with fail;generalize hw5:w3.alloc _=w5;obtain rfl:w4=w5:=hw4.trans hw5;try rw[hb10]
 clear hw4 hw5 hb10;refine Jx 8 S4.out (by kernel_rfl) (by kernel_rfl) (fun hne=>?_)
 simp only[List.take_succ_cons,List.take_zero,List.drop_succ_cons,List.drop_zero];repeat (go_big_quiet_step (fail))
 refine J17 fun w6 S5=>?_
 have hch:=hid (Jlm ea ec (ptr tb) id w6);have v0:w6.cell? ⟨b10,0,none⟩=some (.int .i64 kd):=J0 (hown.out w6 [] S5).right.tail.tail.head 0;clear S4 x0 x2 y1 hne;replace S5:=hid S5;go_wp2_with fail;refine hch.out.mono ?_;rintro e w7 ⟨rfl,rfl⟩;clear hch;go_wp2_with fail;clear v0
 have hAR:J4l w0 R g 0 [Jm2,kB]:=by
  rw[hR.out];have:=hA.out.more (x:=s2.hp++((b0+1,J5)::(b0,J09 hb cb id args)::((b10,J1b kd tx nn (.slice la 0 lc))::el)))
  simpa using this
 have hfacts:Hid (∀(w':World) (x:Hp),J1 w0 [] w' (x++R)->w'.cell? ⟨b0,0,none⟩=some (ptr hb)/\w'.cell? ⟨b0,2,none⟩=some (.int .i64 id)/\w'.cell? ⟨hb,1,none⟩=some (ptr tb)):=hid fun w' x h=>by
  have ho:=hown.out w' x h;have h1:=(huC ho).h1;rw[hs2.out] at h1;exact⟨(J3i ho).a0,(J3i ho).a2,by rw[hhb.out,htb.out];exact h1⟩
 have hkeys:=hid (Jmw S5.out.drew hAR 2)
 have hreadc:Hid (∀(w':World) (g2 c2:Nat) (rest2:List Value),J1 w0 [] w' ((g2,.cells (Value.string kB::rest2).toArray 9 (0,0))::R)->Calls Tryz.prog 36 #[ptr tb,.int .i64 id,.slice (some ⟨g2,0,none⟩) 1 c2] w' (Jcm w0 ((g2,.cells (Value.string kB::rest2).toArray 9 (0,0))::(b0+1,J5)::(b0,J09 hb cb id args)::((b10,J1b kd tx nn (.slice la 0 lc))::(el++r))) s2 kB id)):=hid fun w' g2 c2 rest2 h=>by
  have h2:J1 w0 [] w' (s2.hp++((g2,.cells (Value.string kB::rest2).toArray 9 (0,0))::(b0+1,J5)::(b0,J09 hb cb id args)::((b10,J1b kd tx nn (.slice la 0 lc))::(el++r)))):=by
   rw[hR.out] at h;exact h.permR List.perm_middle.symm
  have ht2:t∈s2.ts:=by rw[hs2.out];exact ht.out
  have:=Jni (c:=c2) h2 hO2.out ht2 hon.out (g:=g2) (off:=0) (k:=kB) (fun w'' x hx=>J0 hx.own.right.head 0)
  rw[hti.out] at this;rw[htb.out];rw[hs2.out] at this⊢;exact this
 obtain⟨f0,f2,f1⟩:=hfacts.out w7.drew [] S5.out.drew
 clear hAR;go_cut [12] (fun s12 wc=>s12= .slice none 0 0/\∃g2 rest2 kl,Hid (J2l kl s2.kb (.one kB id))/\Hid (J1 w0 [] wc (({s2 with kl:=kl}:Hu).hp++((g2,.cells (Value.string kB::rest2).toArray 9 (0,0))::(b0+1,J5)::(b0,J09 hb cb id args)::((b10,J1b kd tx nn (.slice la 0 lc))::(el++r))))))
 case first=>
  go_region_with (first|(go_at_call 37;refine hkeys.out.mono ?_;rintro e w8 ⟨g2,c2,rest2,rfl,S6⟩;obtain⟨k0,k2,k1⟩:=hfacts.out w8 [_] S6;have hread:=hid (hreadc.out w8 g2 c2 rest2 S6);clear S6)|(go_at_call 36;refine hread.out.mono ?_;rintro e w9 ⟨rfl,kl,hK,S7⟩;replace hK:=hid hK;replace S7:=hid S7))
  all_goals (go_wp2_with fail;go_meet;exact⟨rfl,_,_,kl,hK,S7⟩)
 case rest=>
  obtain⟨rfl,g2,rest2,kl,hK,S8⟩:=hcut
  rename_i wc
  obtain⟨X,hX⟩:∃X:Hp,X=({s2 with kl:=kl}:Hu).hp:=⟨_,rfl⟩
  rw[<-hX] at S8;have S9:J1 w0 [] wc (X++((b0+1,J5)::(b0,J09 hb cb id args)::((b10,J1b kd tx nn (.slice la 0 lc))::(g2,.cells (Value.string kB::rest2).toArray 9 (0,0))::(el++r)))):=S8.out.permR (J2 fun f=>by simp only[SC];omega)
  obtain⟨a0,a1,a2,a3,z0,z1,z2,z3,z4,z5,fz,hlt⟩:=J3i S9.own
  have v:=S9.own.right.tail.tail.head;have v0:wc.cell? ⟨b10,0,none⟩=some (.int .i64 kd):=J0 v 0;have v1:wc.cell? ⟨b10,1,none⟩=some (.string tx):=J0 v 1;have v2:wc.cell? ⟨b10,2,none⟩=some (.int .i64 nn):=J0 v 2;have v3:wc.cell? ⟨b10,3,none⟩=some (.float .f64 0):=J0 v 3;have v4:wc.cell? ⟨b10,4,none⟩=some (.bool false):=J0 v 4;have v5:wc.cell? ⟨b10,5,none⟩=some (.slice la 0 lc):=J0 v 5;have S10:=hid ((J2r S9 kd tx nn (.slice la 0 lc)).pick (l2:=X++r) (m:=[(b10,J1b kd tx nn (.slice la 0 lc)),(g2,.cells (Value.string kB::rest2).toArray 9 (0,0))]++el) (J2 fun f=>by simp only[SC];omega))
  have hQ:Hid (Jpp s {p.1 with ev:=[]} id (.slice none 0 0) X):=hid (by
   have h2:=hO2.out;rw[hs2.out] at h2;have hK2:=hK.out;rw[hs2.out] at hK2 hX;exact⟨l',kl,⟨h2.hm,h2.tm,h2.hn,h2.tn,hK2,h2.pr,h2.st⟩,hX⟩)
  replace hX:=hid hX;clear hkeys hreadc hfacts f0 f2 f1 S5 S8 S9 v hR hown hO2 hs2 hK;go_wp2_with fail;refine bodyPost_ret (v:=.tuple #[J3 kd tx nn (.slice la 0 lc),.slice none 0 0]) (by simp[results,Tryz.results20,go_sem,J3, *]<;>rfl) rfl ?_
  exact⟨kd,tx,nn,la,0,lc,none,0,0,X,rfl,hQ.out,S10.out⟩
end Go.Proofs.YtefjbegnlolgbaaGreatDoor
