/-
session: a command of keys: SET by another client than the one that has read the key.
-/
import Derived.Test.YtefjbegnlolgbaaGreatDoorR02
set_option linter.unusedVariables false
set_option linter.unusedSimpArgs false
set_option maxRecDepth 100000
set_option maxHeartbeats 8000000
namespace Go.Proofs.YtefjbegnlolgbaaGreatDoor
open Go Go.RowKit
variable {w0:World}{r:Hp}{g:Nat}{ws:List ByteArray}{k:ByteArray}
abbrev Jon:ByteArray:=⟨#[83,69,84]⟩
def Jpq (s:Hu) (T:St) (id:Int) (lv:Value) (X:Hp):Prop:=∃l kl nl,SliceHp 4 34 lv 1 [.int .i64 1,.int .i64 id,.int .i64 id,.string kB] nl/\({s with sl:=l,kl:=kl}:Hu).Ok .none T/\X=nl++({s with sl:=l,kl:=kl}:Hu).hp
theorem Jqf {v:Value} {l:Hp} (h:SliceHp 2 146 v ([(1,kB)]:List (Int×ByteArray)).length (J1w [(1,kB)]) l):∃eg ec erest,v= .slice (some ⟨eg,0,none⟩) 1 ec/\l=[(eg,.cells (Value.int .i64 1::Value.string kB::erest).toArray 146 (0,0))]:=by
 generalize hn:([(1,kB)]:List (Int×ByteArray)).length=n at h;generalize hx:J1w [(1,kB)]=xs at h;cases h with
 |nil=>cases hn
 |laid g n cap xs rest h1 h2 h3 h4=>
  subst hn;subst hx;exact⟨g,cap,rest,rfl,rfl⟩
theorem Jpg {w:World} {s:Hu} {S:St} {id0:Int} {m:ByteArray} (hS:J1 w0 [] w (s.hp++r)) (hO:s.Ok (.one kB id0) S) {id:Int} {cb:Nat} (hi0:id0∈s.hs.map Hc.id) (hne0:id0≠id) {args:Value} (hA:J4l w0 r g 0 [Jon,kB,m]) (hG:J1q w0) (hT:J00 S/\S.load<=1000000000000)
 (hev:(J8b S 0 kB m []).1.ev=[(1,kB)]):
  Calls Tryz.prog 20 #[J0o s.hb cb id args,.int .i64 0,.int .i64 2,.slice (some ⟨g,0,none⟩) 3 3] w (Jpc w0 r (Jpq s {(J8b S 0 kB m []).1 with ev:=[]} id0)):=by
  have S1:=hS.ask (J09 s.hb cb id args);obtain⟨w1,hw1⟩:∃w1,w1=(w.alloc (J09 s.hb cb id args)).alloc J5:=⟨_,rfl⟩
  rw[<-hw1] at S1;generalize hb0:w.heap.size=b0 at S1;have hA1:J4l w0 ((b0+1,J5)::(b0,J09 s.hb cb id args)::r) g 0 [Jon,kB,m]:=hA.more (x:=[_,_]);have hrun:=hid (Jpy S1 hO hG hT hA1 (by unfold J0k;kernel_rfl))
  have c0:w1.cell? ⟨s.hb,0,none⟩=some (ptr s.sto):=(huC S1.own).h0;have a0:w1.cell? ⟨b0,0,none⟩=some (ptr s.hb):=(J3i S1.own).a0;obtain⟨hb,hhb⟩:∃hb,hb=s.hb:=⟨_,rfl⟩
  obtain⟨tb,htb⟩:∃tb,tb=s.tb:=⟨_,rfl⟩
  generalize hp:J8b S 0 kB m []=p at hrun hev⊢;obtain⟨kd,hkd⟩:∃kd,kd=p.2.kind:=⟨_,rfl⟩
  rw[<-hhb] at c0 a0 hw1 S1 hA1⊢;replace hO:=hid hO;replace hhb:=hid hhb;replace htb:=hid htb;replace hkd:=hid hkd;replace hA:=hid hA;replace hi0:=hid hi0;replace hne0:=hid hne0;replace hev:=hid hev;replace hp:=hid hp;clear hG hT hS S1 hA1;unfold J0o;go_enter Tryz.func20,Tryz.ntmps20;go_upto_region 1 with fail;generalize hw2:(w.alloc _).alloc _=w2;obtain rfl:w1=w2:=hw1.trans hw2;try rw[hb0]
  clear hw1 hw2 hb0;go_wp2_with fail;refine hrun.out.mono ?_;rintro e w3 ⟨la,lc,ev,el,l',rfl,hevs,hO2,S2⟩;clear hrun c0 a0;rw[hev.out] at hevs;obtain⟨eg,ec,erest,rfl,rfl⟩:=Jqf hevs
  rw[<-hkd.out];generalize p.2.text=tx;generalize p.2.n=nn;obtain⟨s2,hs2⟩:∃s2:Hu,s2={s with sl:=l'}:=⟨_,rfl⟩
  rw[<-hs2] at hO2 S2;have S3:=S2.alloc (J1b kd tx nn (.slice la 0 lc));obtain⟨w4,hw4⟩:∃w4,w4=w3.alloc (J1b kd tx nn (.slice la 0 lc)):=⟨_,rfl⟩
  rw[<-hw4] at S3;generalize hb10:w3.heap.size=b10 at S3;obtain⟨R,hR⟩:∃R:Hp,R=s2.hp++((b0+1,J5)::(b0,J09 hb cb id args)::((b10,J1b kd tx nn (.slice la 0 lc))::((eg,.cells (Value.int .i64 1::Value.string kB::erest).toArray 146 (0,0))::r))):=⟨_,rfl⟩
  have S4:J1 w0 [] w4 R:=hR▸S3.permR (J2 fun f=>by rw[hhb.out];simp only[SC];omega)
  have hown:∀w' x,J1 w0 [] w' (x++R)->Own w' (s2.hp++((b0+1,J5)::(b0,J09 hb cb id args)::((b10,J1b kd tx nn (.slice la 0 lc))::((eg,.cells (Value.int .i64 1::Value.string kB::erest).toArray 146 (0,0))::r)))):=fun w' x h=>hR▸h.own.right
  have x0:∀p:InW w0 [] R,p.w.cell? ⟨b0,0,none⟩=some (ptr hb):=fun p=>(J3i (hown _ [] p.h)).a0
  have x2:∀p:InW w0 [] R,p.w.cell? ⟨b0,2,none⟩=some (.int .i64 id):=fun p=>(J3i (hown _ [] p.h)).a2
  have y1:∀p:InW w0 [] R,p.w.cell? ⟨hb,1,none⟩=some (ptr tb):=fun p=>by have:=(huC (hown _ [] p.h)).h1;rw[hs2] at this;rw[hhb.out,htb.out];exact this
  replace S4:=hid S4;replace hR:=hid hR;replace hown:=hid hown;replace hO2:=hid hO2;replace hs2:=hid hs2;clear S2 S3 hevs;unfold J3;go_upto_region 2 with fail;generalize hw5:w3.alloc _=w5;obtain rfl:w4=w5:=hw4.trans hw5;try rw[hb10]
  clear hw4 hw5 hb10;refine Jx 8 S4.out (by kernel_rfl) (by kernel_rfl) (fun hne=>?_)
  simp only[List.take_succ_cons,List.take_zero,List.drop_succ_cons,List.drop_zero];repeat (go_big_quiet_step (fail))
  refine J17 fun w6 S5=>?_
  have ho6:=hown.out w6 [] S5;have e0:w6.cell? ⟨eg,0,none⟩=some (.int .i64 1):=J0 ho6.right.tail.tail.tail.head 0;have e1:w6.cell? ⟨eg,1,none⟩=some (.string kB):=J0 ho6.right.tail.tail.tail.head 1;have v0:w6.cell? ⟨b10,0,none⟩=some (.int .i64 kd):=J0 ho6.right.tail.tail.head 0
  have hch:Hid (Calls Tryz.prog 35 #[ptr tb,.int .i64 id,.slice (some ⟨eg,0,none⟩) 1 ec] w6 (Jfa w0 ((b0+1,J5)::(b0,J09 hb cb id args)::((b10,J1b kd tx nn (.slice la 0 lc))::((eg,.cells (Value.int .i64 1::Value.string kB::erest).toArray 146 (0,0))::r))) s2 id0 kB)):=hid (by
   have h5:=S5;rw[hR.out] at h5;have:=Jlz (c:=ec) h5 hO2.out (by rw[hs2.out];exact hi0.out) hne0.out e0 e1
   rw[htb.out];rw[hs2.out] at this⊢;exact this)
  clear S4 S5 x0 x2 y1 hne ho6 e0 e1;go_wp2_with fail;refine hch.out.mono ?_;rintro e w7 ⟨nv,nl,kl,rfl,hnl,hK,S8⟩;clear hch v0;obtain⟨na,nc,rfl⟩:=hnl.form0
  obtain⟨X,hX⟩:∃X:Hp,X=nl++({s2 with kl:=kl}:Hu).hp:=⟨_,rfl⟩
  have S9:J1 w0 [] w7 (X++((b0+1,J5)::(b0,J09 hb cb id args)::((b10,J1b kd tx nn (.slice la 0 lc))::((eg,.cells (Value.int .i64 1::Value.string kB::erest).toArray 146 (0,0))::r)))):=by rw[hX,List.append_assoc];exact S8
  obtain⟨a0,a1,a2,a3,z0,z1,z2,z3,z4,z5,fz,hlt⟩:=J3i S9.own
  have v:=S9.own.right.tail.tail.head;have v0:w7.cell? ⟨b10,0,none⟩=some (.int .i64 kd):=J0 v 0;have v1:w7.cell? ⟨b10,1,none⟩=some (.string tx):=J0 v 1;have v2:w7.cell? ⟨b10,2,none⟩=some (.int .i64 nn):=J0 v 2;have v3:w7.cell? ⟨b10,3,none⟩=some (.float .f64 0):=J0 v 3;have v4:w7.cell? ⟨b10,4,none⟩=some (.bool false):=J0 v 4;have v5:w7.cell? ⟨b10,5,none⟩=some (.slice la 0 lc):=J0 v 5;have S10:=hid ((J2r S9 kd tx nn (.slice la 0 lc)).pick (l2:=X++r) (m:=[(b10,J1b kd tx nn (.slice la 0 lc)),(eg,.cells (Value.int .i64 1::Value.string kB::erest).toArray 146 (0,0))]) (J2 fun f=>by simp only[SC];omega))
  have hQ:Hid (Jpq s {p.1 with ev:=[]} id0 (.slice na 1 nc) X):=hid (by
   have h2:=hO2.out;rw[hs2.out] at h2 hK hX;exact⟨l',kl,nl,hnl,⟨h2.hm,h2.tm,h2.hn,h2.tn,hK,h2.pr,h2.st⟩,hX⟩)
  replace hX:=hid hX;clear S8 S9 v hR hown hO2 hs2 hK hnl;go_wp2_with fail;refine bodyPost_ret (v:=.tuple #[J3 kd tx nn (.slice la 0 lc),.slice na 1 nc]) (by simp[results,Tryz.results20,go_sem,J3, *]<;>rfl) rfl ?_
  exact⟨kd,tx,nn,la,0,lc,na,1,nc,X,rfl,hQ.out,S10.out⟩
def Joz:Sp:=⟨Jm4,3,1,2,0,0,0⟩
def Jqg:Sp:=⟨Jnb,3,1,1,0,0,0⟩
def Joe:Sp:=⟨Jkh,3,2,64,0,0,0⟩
theorem J4l.word {off:Nat} (h:J4l w0 r g off ws) {i:Nat} (hi:ws[i]? =some k):J67 w0 r g (off+i) k:=fun w' x hx=>h.at_ w' x hx i k hi
theorem J4l.word1 {c:ByteArray} (h:J4l w0 r g 0 (c::k::ws)) (y z:Hp):J67 w0 (y++(z++r)) g 1 k:=(((h.word (i:=1) rfl).more z).more y)
theorem J4l.word2 {c m:ByteArray} (h:J4l w0 r g 0 (c::k::m::ws)) (x y z:Hp):J67 w0 (x++(y++(z++r))) g 2 m:=((((h.word (i:=2) rfl).more z).more y).more x)
theorem Kn {s:Hu} {K:KSt} {S:St} (hO:s.Ok K S) {c:Hc} (hc:c∈s.hs):Joq s.hb c.id s.hp:=⟨s,K,S,c,[],rfl,hO,hc,rfl,by rw[List.append_nil]⟩
theorem Jof:(Jm4.toList==[67,76,73,69,78,84])=false:=by kernel_rfl
theorem Jpd:(Jnb.toList==[67,76,73,69,78,84])=false:=by kernel_rfl
theorem Jxq:(Jkh.toList==[67,76,73,69,78,84])=true:=by kernel_rfl
section
variable {w0 w:World} {s:Hu} {r:Hp} {K:KSt} {S:St} {g:Nat}
theorem Jql (hS:J1 w0 [] w (s.hp++r)) (hO:s.Ok K S) {c:Hc} (hc:c∈s.hs) (hA:J4l w0 r g 0 [Jkh,idB]):
 Calls Tryz.prog 7 #[ptr s.hb,.int .i64 c.id,.int .i64 0,.slice (some ⟨g,0,none⟩) 2 2] w (Kh w0 r (fun kd _ nn _ _ _ X=>(kd=3/\nn=c.id)/\X=s.hp)):=
 Km hS hO hc hA rfl (sp:=Joe) (by unfold J0k;kernel_rfl)
  (.inr ⟨rfl,.inr ⟨Jxq,idB,[],rfl,by kernel_rfl⟩,false,fun kd _ nn _ L=>(kd=3/\nn=c.id)/\L=s.hp,fun _ _ _ _ _ h=>h,
   fun w' y h=>Jmf h fun w2 y2 h2=>(Jnq h2 (hA.word1 y2 y)).mono fun _ _ hp=>Ji.ask hp ⟨⟨rfl,rfl⟩,rfl⟩⟩)
  (fun _ _ _ _ _ _ _ h=>by rw[h.2];exact Kn hO hc)
theorem Jp4 (hS:J1 w0 [] w (s.hp++r)) (hO:s.Ok K S) {c:Hc} (hc:c∈s.hs) (hA:J4l w0 r g 0 [Jm4,⟨#[52]⟩]):
 Calls Tryz.prog 7 #[ptr s.hb,.int .i64 c.id,.int .i64 0,.slice (some ⟨g,0,none⟩) 2 2] w (Kh w0 r (fun _ tx _ _ _ _ X=>tx=J37/\X=s.hp)):=
 Km hS hO hc hA rfl (sp:=Joz) (by unfold J0k;kernel_rfl)
  (.inr ⟨rfl,.inl Jof,false,fun _ tx _ _ L=>tx=J37/\L=s.hp,fun _ _ _ _ _ h=>h,
   fun w' y h=>Jlo h fun w2 y2 h2=>(Jnp h2 hO hc (hA.word1 y2 y)).mono fun _ _ hp=>Ji.ask hp ⟨rfl,rfl⟩⟩)
  (fun _ _ _ _ _ _ _ h=>by rw[h.2];exact Kn hO hc)
theorem Jp3 (hS:J1 w0 [] w (s.hp++r)) (hO:s.Ok K S) {a b:List Hc} {c:Hc} (hc:s.hs=a++c::b) (hA:J4l w0 r g 0 [Jm4,Jjs]):
 Calls Tryz.prog 7 #[ptr s.hb,.int .i64 c.id,.int .i64 0,.slice (some ⟨g,0,none⟩) 2 2] w (Kh w0 r (fun _ _ _ _ _ _ X=>X=({s with hs:=a++{c with proto:=3}::b}:Hu).hp)):=
 Km hS hO (c:=c) (by rw[hc];simp) hA rfl (sp:=Joz) (by unfold J0k;kernel_rfl)
  (.inr ⟨rfl,.inl Jof,false,Jlv s (a++{c with proto:=3}::b),fun _ _ _ _ _ h=>h.2,
   fun w' y h=>Jlo h fun w2 y2 h2=>Jno h2 hO hc (hA.word1 y2 y)⟩)
  (fun _ _ _ _ _ _ _ h=>by rw[h];exact⟨({s with hs:=a++{c with proto:=3}::b}:Hu),K,S,{c with proto:=3},[],rfl,hO.hcSame hc rfl rfl,by simp,rfl,by rw[List.append_nil]⟩)
theorem Jqc (hS:J1 w0 [] w (s.hp++r)) (hO:s.Ok K S) {c:Hc} (hc:c∈s.hs) (hp2:c.proto=2) (hA:J4l w0 r g 0 [Jkh,J9u,onB]):
 Calls Tryz.prog 7 #[ptr s.hb,.int .i64 c.id,.int .i64 0,.slice (some ⟨g,0,none⟩) 3 3] w (Kh w0 r (fun _ tx _ _ _ _ X=>tx=Jo 132/\X=s.hp)):=
 Km hS hO hc hA rfl (sp:=Joe) (by unfold J0k;kernel_rfl)
  (.inr ⟨rfl,.inr ⟨Jxq,J9u,[onB],rfl,by kernel_rfl⟩,false,fun _ tx _ _ L=>tx=Jo 132/\L=s.hp,fun _ _ _ _ _ h=>h,
   fun w' y h=>Jmf h fun w2 y2 h2=>Jmo h2 (hA.word1 y2 y) fun w3 y3 h3=>(Jl7 h3 hO hc hp2 (hA.word2 y3 y2 y)).mono fun _ _ hp=>Ji.ask hp ⟨rfl,rfl⟩⟩)
  (fun _ _ _ _ _ _ _ h=>by rw[h.2];exact Kn hO hc)
theorem Joo (hO:s.Ok K S) {a b:List Tc} {t:Tc} (ht:s.ts=a++t::b) (on:Bool) {pl:Hp} (hP:J5o pl s.pb):({s with ts:=a++{t with on:=on}::b,pl:=pl}:Hu).Ok K S:=by
 have h:=hO.tcSame ht (c':={t with on:=on}) rfl rfl
 exact⟨h.hm,h.tm,h.hn,h.tn,h.ks,hP,h.st⟩
theorem Jqb (hS:J1 w0 [] w (s.hp++r)) (hO:s.Ok K S) {c:Hc} (hc:c∈s.hs) (hp3:c.proto=3) {a b:List Tc} {t:Tc} (ht:s.ts=a++t::b) (hti:t.id=c.id) (hoff:t.on=false) (hA:J4l w0 r g 0 [Jkh,J9u,onB]):
 Calls Tryz.prog 7 #[ptr s.hb,.int .i64 c.id,.int .i64 0,.slice (some ⟨g,0,none⟩) 3 3] w (Kh w0 r (fun _ _ _ _ _ _ X=>∃pl,J5o pl s.pb/\X=({s with ts:=a++{t with on:=true}::b,pl:=pl}:Hu).hp)):=
 Km hS hO hc hA rfl (sp:=Joe) (by unfold J0k;kernel_rfl)
  (.inr ⟨rfl,.inr ⟨Jxq,J9u,[onB],rfl,by kernel_rfl⟩,false,Jlx s (a++{t with on:=true}::b),fun _ _ _ _ _ h=>h.2.2,
   fun w' y h=>Jmf h fun w2 y2 h2=>Jmo h2 (hA.word1 y2 y) fun w3 y3 h3=>Jl6 h3 hO hc hp3 ht hti hoff (hA.word2 y3 y2 y)⟩)
  (fun _ _ _ _ _ _ _ h=>by
   obtain⟨pl,hP,rfl⟩:=h
   exact⟨({s with ts:=a++{t with on:=true}::b,pl:=pl}:Hu),K,S,c,[],rfl,Joo hO ht true hP,hc,rfl,by rw[List.append_nil]⟩)
theorem Jpu (hS:J1 w0 [] w (s.hp++r)) (hO:s.Ok K S) {c:Hc} (hc:c∈s.hs) (hA:J4l w0 r g 0 [⟨#[113,117,105,116]⟩]):
 Calls Tryz.prog 7 #[ptr s.hb,.int .i64 c.id,.int .i64 0,.slice (some ⟨g,0,none⟩) 1 1] w (Kh w0 r (fun _ tx _ _ _ en X=>(tx=okB/\en=true)/\X=s.hp)):=
 Km hS hO hc hA rfl (sp:=Jqg) (by unfold J0k;kernel_rfl)
  (.inr ⟨rfl,.inl Jpd,true,fun _ tx _ _ L=>tx=okB/\L=s.hp,fun _ _ _ _ _ h=>⟨⟨h.1,rfl⟩,h.2⟩,
   fun w' y h=>Jme h⟩)
  (fun _ _ _ _ _ _ _ h=>by rw[h.2];exact Kn hO hc)
theorem Jqa (hS:J1 w0 [] w (s.hp++r)) (hO:s.Ok .none S) {c:Hc} (hc:c∈s.hs) {t:Tc} (ht:t∈s.ts) (hti:t.id=c.id) (hon:t.on=true) (hA:J4l w0 r g 0 [Jm2,kB]) (hG:J1q w0) (hT:J00 S/\S.load<=1000000000000) (hev:(Jha S 0 kB).1.ev=[]) (hk2:(Jha S 0 kB).2.kind≠2):
 Calls Tryz.prog 7 #[ptr s.hb,.int .i64 c.id,.int .i64 0,.slice (some ⟨g,0,none⟩) 2 2] w (Kh w0 r (fun _ _ _ _ nv _ X=>Jpp s {(Jha S 0 kB).1 with ev:=[]} c.id nv X)):=
 Km hS hO hc hA rfl (sp:=J7y) (by unfold J0k;kernel_rfl)
  (.inl ⟨rfl,Jpp s {(Jha S 0 kB).1 with ev:=[]} c.id,fun _ _ _ _ _ _ h=>h,fun w' y h=>Jpf h hO ht hti hon (hA.more (x:=y)) hG hT hev hk2⟩)
  (fun _ _ _ _ _ _ _ h=>by
   obtain⟨l,kl,hO2,rfl⟩:=h
   exact⟨({s with sl:=l,kl:=kl}:Hu),_,_,c,[],rfl,hO2,hc,rfl,by rw[List.append_nil]⟩)
theorem Jqd (hS:J1 w0 [] w (s.hp++r)) {id0:Int} (hO:s.Ok (.one kB id0) S) {c:Hc} (hc:c∈s.hs) (hi0:id0∈s.hs.map Hc.id) (hne:id0≠c.id) {m:ByteArray} (hA:J4l w0 r g 0 [Jon,kB,m]) (hG:J1q w0) (hT:J00 S/\S.load<=1000000000000) (hev:(J8b S 0 kB m []).1.ev=[(1,kB)]) (hw:J0k [Jon,kB,m]=(Jje,ByteArray.empty)):
 Calls Tryz.prog 7 #[ptr s.hb,.int .i64 c.id,.int .i64 0,.slice (some ⟨g,0,none⟩) 3 3] w (Kh w0 r (fun _ _ _ _ nv _ X=>Jpq s {(J8b S 0 kB m []).1 with ev:=[]} id0 nv X)):=
 Km hS hO hc hA rfl (sp:=Jje) hw
  (.inl ⟨rfl,Jpq s {(J8b S 0 kB m []).1 with ev:=[]} id0,fun _ _ _ _ _ _ h=>h,fun w' y h=>Jpg h hO hi0 hne (hA.more (x:=y)) hG hT hev⟩)
  (fun _ _ _ _ _ _ _ h=>by
   obtain⟨l,kl,nl,_,hO2,rfl⟩:=h
   exact⟨({s with sl:=l,kl:=kl}:Hu),_,_,c,nl,rfl,hO2,hc,rfl,List.perm_append_comm⟩)
end
end Go.Proofs.YtefjbegnlolgbaaGreatDoor
