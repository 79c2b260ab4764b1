/-
nearhandlaw21: a hub between commands, and what each command does to it.
-/
import Derived.Test.YtefjbegnlolgbaaGreatDoorR03
set_option linter.unusedVariables false
set_option linter.unusedSimpArgs false
set_option maxRecDepth 100000
set_option maxHeartbeats 8000000
namespace Go.Proofs.YtefjbegnlolgbaaGreatDoor
open Go Go.RowKit
variable {w0 w:World}{s:Hu}{r:Hp}{hb:Nat}{S:St}
theorem Kf (h:J1 w0 [] w (s.hp++r)) (ws:List ByteArray):J1 w0 [] (w.alloc (J7j ws)) (s.hp++((w.heap.size,J7j ws)::r)):=(h.alloc (J7j ws)).permR List.perm_middle.symm
theorem Kl {g:Nat} {ws:List ByteArray} (hs:∀s∈ws,s.size<=1099511627776) (hf:ws.length<=1099511627776):J4l w0 ((g,J7j ws)::r) g 0 ws:=J4l.own (t:=9) (List.mem_cons_self ..) hs hf
structure Kd (w0 w:World) (r:Hp) (hb:Nat) (s:Hu) (K:KSt) (S:St):Prop where
 e:s.hb=hb
 ok:s.Ok K S
 st:J1 w0 [] w (s.hp++r)
theorem Kd.let' {p:Nat×Obj} {K:KSt} (h:Kd w0 w (p::r) hb s K S):Kd w0 w r hb s K S:=⟨h.e,h.ok,h.st.pick (l2:=s.hp++r) (m:=[p]) (J2 fun f=>by simp only[SC];omega)⟩
theorem Kd.val {K:KSt} (h:Kd w0 w r hb s K S) (o:Obj):Kd w0 (w.alloc o) ((w.heap.size,o)::r) hb s K S:=⟨h.e,h.ok,(h.st.alloc o).permR List.perm_middle.symm⟩
def DoP (w0:World) (r:Hp) (hb:Nat) (F:Int->ByteArray->Int->Bool->Prop) (P:Hu->KSt->St->Prop) (e:Ending) (w':World):Prop:=∃kd tx nn a n c na nn' nc en s' K S,e= .returned (.tuple #[J3 kd tx nn (.slice a n c),.slice na nn' nc,.bool en])/\F kd tx nn en/\P s' K S/\Kd w0 w' r hb s' K S
theorem DoP.of {p:Nat×Obj} {Q:Int->ByteArray->Int->Value->Value->Bool->Hp->Prop} {F:Int->ByteArray->Int->Bool->Prop} {P:Hu->KSt->St->Prop} {e:Ending} {w':World} (h:Kh w0 (p::r) Q e w') (hQ:∀kd tx nn lv nv en X,Q kd tx nn lv nv en X->F kd tx nn en/\∃s' K S,X=s'.hp/\s'.hb=hb/\s'.Ok K S/\P s' K S):DoP w0 r hb F P e w':=by
 obtain⟨kd,tx,nn,a,n,c,na,nn',nc,en,X,rfl,hq,hS⟩:=h
 obtain⟨hF,s',K,S,rfl,he,hO,hP⟩:=hQ _ _ _ _ _ _ _ hq
 exact⟨kd,tx,nn,a,n,c,na,nn',nc,en,s',K,S,rfl,hF,hP,Kd.let' ⟨he,hO,hS⟩⟩
def Is (hs:List Hc) (ts:List Tc) (K0:KSt) (S0:St) (s:Hu) (K:KSt) (S:St):Prop:=(s.hs=hs/\s.ts=ts)/\K=K0/\S=S0
section
variable {w0 w:World} {s:Hu} {r:Hp} {K:KSt} {S:St} {hb:Nat}
theorem Jqk (H:Kd w0 w r hb s K S) {c:Hc} (hc:c∈s.hs):Calls Tryz.prog 7 #[ptr hb,.int .i64 c.id,.int .i64 0,.slice (some ⟨w.heap.size,0,none⟩) 2 2] (w.alloc (J7j [Jkh,idB])) (DoP w0 r hb (fun kd _ nn _=>kd=3/\nn=c.id) (Is s.hs s.ts K S)):=by
 obtain⟨rfl,hok,hst⟩:=H
 exact(Jql (Kf hst [Jkh,idB]) hok hc (Kl (by decide) (by decide))).mono fun _ _ hp=>DoP.of hp fun _ _ _ _ _ _ _ hq=>⟨hq.1,s,K,S,hq.2,rfl,hok,⟨rfl,rfl⟩,rfl,rfl⟩
theorem Jp2 (H:Kd w0 w r hb s K S) {c:Hc} (hc:c∈s.hs):Calls Tryz.prog 7 #[ptr hb,.int .i64 c.id,.int .i64 0,.slice (some ⟨w.heap.size,0,none⟩) 2 2] (w.alloc (J7j [Jm4,⟨#[52]⟩])) (DoP w0 r hb (fun _ tx _ _=>tx=J37) (Is s.hs s.ts K S)):=by
 obtain⟨rfl,hok,hst⟩:=H
 exact(Jp4 (Kf hst [Jm4,⟨#[52]⟩]) hok hc (Kl (by decide) (by decide))).mono fun _ _ hp=>DoP.of hp fun _ _ _ _ _ _ _ hq=>⟨hq.1,s,K,S,hq.2,rfl,hok,⟨rfl,rfl⟩,rfl,rfl⟩
theorem Jp1 (H:Kd w0 w r hb s K S) {a b:List Hc} {c:Hc} (hc:s.hs=a++c::b):Calls Tryz.prog 7 #[ptr hb,.int .i64 c.id,.int .i64 0,.slice (some ⟨w.heap.size,0,none⟩) 2 2] (w.alloc (J7j [Jm4,Jjs])) (DoP w0 r hb (fun _ _ _ _=>True) (Is (a++{c with proto:=3}::b) s.ts K S)):=by
 obtain⟨rfl,hok,hst⟩:=H
 exact(Jp3 (Kf hst [Jm4,Jjs]) hok hc (Kl (by decide) (by decide))).mono fun _ _ hp=>DoP.of hp fun _ _ _ _ _ _ _ hq=>⟨trivial,_,K,S,hq,rfl,hok.hcSame hc rfl rfl,⟨rfl,rfl⟩,rfl,rfl⟩
theorem Jq7 (H:Kd w0 w r hb s K S) {c:Hc} (hc:c∈s.hs) (hp2:c.proto=2):Calls Tryz.prog 7 #[ptr hb,.int .i64 c.id,.int .i64 0,.slice (some ⟨w.heap.size,0,none⟩) 3 3] (w.alloc (J7j [Jkh,J9u,onB])) (DoP w0 r hb (fun _ tx _ _=>tx=Jo 132) (Is s.hs s.ts K S)):=by
 obtain⟨rfl,hok,hst⟩:=H
 exact(Jqc (Kf hst [Jkh,J9u,onB]) hok hc hp2 (Kl (by decide) (by decide))).mono fun _ _ hp=>DoP.of hp fun _ _ _ _ _ _ _ hq=>⟨hq.1,s,K,S,hq.2,rfl,hok,⟨rfl,rfl⟩,rfl,rfl⟩
theorem Jq6 (H:Kd w0 w r hb s K S) {c:Hc} (hc:c∈s.hs) (hp3:c.proto=3) {a b:List Tc} {t:Tc} (ht:s.ts=a++t::b) (hti:t.id=c.id) (hoff:t.on=false):Calls Tryz.prog 7 #[ptr hb,.int .i64 c.id,.int .i64 0,.slice (some ⟨w.heap.size,0,none⟩) 3 3] (w.alloc (J7j [Jkh,J9u,onB])) (DoP w0 r hb (fun _ _ _ _=>True) (Is s.hs (a++{t with on:=true}::b) K S)):=by
 obtain⟨rfl,hok,hst⟩:=H
 exact(Jqb (Kf hst [Jkh,J9u,onB]) hok hc hp3 ht hti hoff (Kl (by decide) (by decide))).mono fun _ _ hp=>DoP.of hp fun _ _ _ _ _ _ _ hq=>by
  obtain⟨pl,hP,rfl⟩:=hq
  exact⟨trivial,_,K,S,rfl,rfl,Joo hok ht true hP,⟨rfl,rfl⟩,rfl,rfl⟩
theorem Jps (H:Kd w0 w r hb s K S) {c:Hc} (hc:c∈s.hs):Calls Tryz.prog 7 #[ptr hb,.int .i64 c.id,.int .i64 0,.slice (some ⟨w.heap.size,0,none⟩) 1 1] (w.alloc (J7j [⟨#[113,117,105,116]⟩])) (DoP w0 r hb (fun _ tx _ en=>tx=okB/\en=true) (Is s.hs s.ts K S)):=by
 obtain⟨rfl,hok,hst⟩:=H
 exact(Jpu (Kf hst [⟨#[113,117,105,116]⟩]) hok hc (Kl (by decide) (by decide))).mono fun _ _ hp=>DoP.of hp fun _ _ _ _ _ _ _ hq=>⟨hq.1,s,K,S,hq.2,rfl,hok,⟨rfl,rfl⟩,rfl,rfl⟩
theorem Jq5 (H:Kd w0 w r hb s .none S) {c:Hc} (hc:c∈s.hs) {t:Tc} (ht:t∈s.ts) (hti:t.id=c.id) (hon:t.on=true) (hG:J1q w0) (hT:J00 S/\S.load<=1000000000000) (hev:(Jha S 0 kB).1.ev=[]) (hk2:(Jha S 0 kB).2.kind≠2):Calls Tryz.prog 7 #[ptr hb,.int .i64 c.id,.int .i64 0,.slice (some ⟨w.heap.size,0,none⟩) 2 2] (w.alloc (J7j [Jm2,kB])) (DoP w0 r hb (fun _ _ _ _=>True) (Is s.hs s.ts (.one kB c.id) {(Jha S 0 kB).1 with ev:=[]})):=by
 obtain⟨rfl,hok,hst⟩:=H
 exact(Jqa (Kf hst [Jm2,kB]) hok hc ht hti hon (Kl (by decide) (by decide)) hG hT hev hk2).mono fun _ _ hp=>DoP.of hp fun _ _ _ _ _ _ _ hq=>by
  obtain⟨l,kl,hO2,rfl⟩:=hq
  exact⟨trivial,_,_,_,rfl,rfl,hO2,⟨rfl,rfl⟩,rfl,rfl⟩
theorem Jpr (H:Kd w0 w r hb s K S) {id:Int} (hn:id∉s.hs.map Hc.id) (ws:List ByteArray) (n:Nat):Calls Tryz.prog 7 #[ptr hb,.int .i64 id,.int .i64 0,.slice (some ⟨w.heap.size,0,none⟩) n n] (w.alloc (J7j ws)) (fun e w'=>e= .returned (.tuple #[J3 0 ByteArray.empty 0 (.slice none 0 0),.slice none 0 0,.bool false])/\Kd w0 w' r hb s K S):=by
 obtain⟨rfl,hok,hst⟩:=H
 exact(Jpt (Kf hst ws) hok hn (.slice (some ⟨w.heap.size,0,none⟩) n n)).mono fun _ _ hp=>⟨hp.1,Kd.let' ⟨rfl,hok,hp.2⟩⟩
end
def Jqq (w0:World) (r:Hp) (id0:Int) (e:Ending) (w':World):Prop:=∃kd tx nn a n c na nc en nl y,e= .returned (.tuple #[J3 kd tx nn (.slice a n c),.slice na 1 nc,.bool en])/\SliceHp 4 34 (.slice na 1 nc) 1 [.int .i64 1,.int .i64 id0,.int .i64 id0,.string kB] nl/\J1 w0 [] w' (nl++(y++r))
theorem Jq8 {id0:Int} (H:Kd w0 w r hb s (.one kB id0) S) {c:Hc} (hc:c∈s.hs) (hi0:id0∈s.hs.map Hc.id) (hne:id0≠c.id) {m:ByteArray} (hm:m.size<=1000) (hG:J1q w0) (hT:J00 S/\S.load<=1000000000000) (hev:(J8b S 0 kB m []).1.ev=[(1,kB)]) (hw:J0k [Jon,kB,m]=(Jje,ByteArray.empty)):
 Calls Tryz.prog 7 #[ptr hb,.int .i64 c.id,.int .i64 0,.slice (some ⟨w.heap.size,0,none⟩) 3 3] (w.alloc (J7j [Jon,kB,m])) (Jqq w0 r id0):=by
 obtain⟨rfl,hok,hst⟩:=H
 have h:=Jqd (Kf hst [Jon,kB,m]) hok hc hi0 hne (Kl (by intro x hx;simp only[List.mem_cons,List.not_mem_nil,or_false] at hx;rcases hx with rfl|rfl|rfl<;>first|decide|omega) (by simp)) hG hT hev hw
 refine h.mono fun _ _ hp=>?_
 obtain⟨kd,tx,nn,a,n,c,na,nn',nc,en,X,rfl,⟨l,kl,nl,hnl,_,rfl⟩,hS⟩:=hp
 obtain⟨a9,c9,e9,_,_⟩:=hnl.form
 injection e9 with e1 e2 e3
 subst e2;exact⟨kd,tx,nn,a,n,c,na,nc,en,nl,_,rfl,hnl,hS.permR (l2:=nl++((({s with sl:=l,kl:=kl}:Hu).hp++[(w.heap.size,J7j [Jon,kB,m])])++r)) (J2 fun f=>by simp only[SC];omega)⟩
theorem Joh:(Jha (J4w 10000) 0 kB).1.ev=[]/\(Jha (J4w 10000) 0 kB).2.kind≠2/\({(Jha (J4w 10000) 0 kB).1 with ev:=[]}:St)=J4w 10000:=⟨by kernel_rfl,by decide+kernel,by kernel_rfl⟩
abbrev vB:ByteArray:=⟨#[118]⟩
theorem Jq3:(J8b (J4w 10000) 0 kB vB []).1.ev=[(1,kB)]:=by kernel_rfl
theorem Jou (hS:J1 w0 [] w r) (hG:J1q w0):
 Calls Tryz.prog 4 #[] w (fun e w'=>e= .returned (.bool true)/\J1 w0 [] w' r):=by
 have hnew:=hid (Jmu hS);replace hG:=hid hG;clear hS;go_enter Tryz.func4,Tryz.ntmps4;go_wp2_with fail;refine hnew.out.mono ?_;rintro e w1 ⟨s,rfl,hO,hh,ht,S1⟩;obtain⟨hb,hhb⟩:∃hb,hb=s.hb:=⟨_,rfl⟩
 have hj:=Jms S1 hO (id:=7) (by omega) (by rw[hh];simp)
 rw[<-hhb] at hj⊢;replace hj:=hid hj;replace hh:=hid hh;replace ht:=hid ht;replace hhb:=hid hhb;clear hnew S1 hO;go_wp2_with fail;refine hj.out.mono ?_;rintro e w2 ⟨rfl,s2,tb7,cb7,e2,hh2,ht2,hO2,S2⟩;clear hj;rw[hh.out,List.nil_append] at hh2;rw[ht.out,List.nil_append] at ht2;have hj:=Jms S2 hO2 (id:=8) (by omega) (by rw[hh2];simp)
 rw[e2,<-hhb.out] at hj;replace hj:=hid hj;replace hh2:=hid hh2;replace ht2:=hid ht2;replace e2:=hid e2;clear S2 hO2 hh ht;go_wp2_with fail;refine hj.out.mono ?_;rintro e w3 ⟨rfl,s3,tb8,cb8,e3,hh3,ht3,hO3,S3⟩;clear hj;rw[hh2.out] at hh3;rw[ht2.out] at ht3;rw[e2.out,<-hhb.out] at e3;have hst:=Jm7 S3.own;have htr:=Jm8 S3.own;rw[e3] at hst htr;have H3:=hid (show Kd w0 w3 r hb s3 .none (J4w 10000) from⟨e3,hO3,S3⟩);replace hst:=hid hst;replace htr:=hid htr;replace hh3:=hid hh3;replace ht3:=hid ht3;clear S3 hO3 e3 hh2 ht2 e2 hhb;go_wp2_with fail;refine hst.out.mono ?_;rintro e w4 ⟨rfl,rfl⟩;go_wp2_with fail;refine htr.out.mono ?_;rintro e w4 ⟨rfl,rfl⟩;clear hst htr;have m7:(⟨7,cb7,2⟩:Hc)∈s3.hs:=by rw[hh3.out];simp
 have hd:=hid (Jqk H3.out m7);have hh3':Hid (s3.hs=[]++(⟨7,cb7,2⟩:Hc)::[⟨8,cb8,2⟩]):=hid hh3.out;clear m7;go_wp2_with fail;refine hd.out.mono ?_;rintro e w4 ⟨kd,tx,nn,a,n,c,na,nn',nc,en,s4,K4,S4,rfl,⟨rfl,rfl⟩,⟨⟨hh4,ht4⟩,rfl,rfl⟩,H4⟩;rw[hh3'.out] at hh4;rw[ht3.out] at ht4;clear hd H3 hh3 ht3 hh3';unfold J3;go_upto_region 5 with fail;have H5:=H4.val (J1b 3 tx 7 (.slice a n c));generalize hw5:w4.alloc _=w5;replace H5:Kd w0 w5 _ hb s4 .none (J4w 10000):=hw5▸H5;clear hw5 H4;generalize w4.heap.size=vb at H5⊢;have hd:=hid (Jp1 H5 hh4);replace hh4:=hid hh4;replace ht4:=hid ht4;clear H5;go_wp2_with fail;refine hd.out.mono ?_;rintro e w6 ⟨kd6,tx6,nn6,a6,n6,c6,na6,nn6',nc6,en6,s6,K6,S6,rfl,-,⟨⟨hh6,ht6⟩,rfl,rfl⟩,H6⟩;rw[ht4.out] at ht6;clear hd hh4 ht4;replace H6:=hid H6;have hd:=hid (Jq6 H6.out (c:=⟨7,cb7,3⟩) (by rw[hh6];simp) rfl (a:=[]) ht6 rfl rfl)
 replace hh6:=hid hh6;replace ht6:=hid ht6;clear H6;unfold J3;go_wp2_with fail;refine hd.out.mono ?_;rintro e w7 ⟨kd7,tx7,nn7,a7,n7,c7,na7,nn7',nc7,en7,s7,K7,S7,rfl,-,⟨⟨hh7,ht7⟩,rfl,rfl⟩,H7⟩;rw[hh6.out] at hh7;clear hd hh6 ht6;replace H7:=hid H7;have hd:=Jq5 H7.out (c:=⟨7,cb7,3⟩) (by rw[hh7];simp) (t:=⟨7,tb7,true⟩) (by rw[ht7];simp) rfl rfl hG.out ⟨Ka _,by decide⟩ Joh.1 Joh.2.1
 rw[Joh.2.2] at hd;replace hd:=hid hd;replace hh7:=hid hh7;replace ht7:=hid ht7;clear H7;unfold J3;go_wp2_with fail;refine hd.out.mono ?_;rintro e w8 ⟨kd8,tx8,nn8,a8,n8,c8,na8,nn8',nc8,en8,s8,K8,S8,rfl,-,⟨⟨hh8,ht8⟩,rfl,rfl⟩,H8⟩;rw[hh7.out] at hh8;clear hd hh7 ht7;replace H8:=hid H8;have hd:=hid (Jq8 H8.out (c:=⟨8,cb8,2⟩) (id0:=7) (by rw[hh8];simp) (by rw[hh8];simp) (by show(7:Int)≠8;omega) (m:=vB) (by decide) hG.out ⟨Ka _,by decide⟩ Jq3 (by unfold J0k;kernel_rfl))
 clear hh8 ht8 H8;unfold J3;go_wp2_with fail;refine hd.out.mono ?_;rintro e w9 ⟨kd9,tx9,nn9,a9,n9,c9,na9,nc9,en9,nl,y,rfl,hnl,S9⟩;clear hd;unfold J3;go_upto_region 9 with fail;have S10:=S9.alloc (J1b kd9 tx9 nn9 (.slice a9 n9 c9));generalize hw10:w9.alloc _=w10;replace S10:J1 w0 [] w10 _:=hw10▸S10;clear hw10 S9;generalize w9.heap.size=b9 at S10⊢;cases hnl with
 |laid g0 n0 cap0 xs0 rest0 q1 q2 q3 q4=>
  have v0:w10.cell? ⟨vb,0,none⟩=some (.int .i64 3):=J0 (S10.own.at_ (vb,J1b 3 tx 7 (.slice a n c)) (by simp)) 0
  have v2:w10.cell? ⟨vb,2,none⟩=some (.int .i64 7):=J0 (S10.own.at_ (vb,J1b 3 tx 7 (.slice a n c)) (by simp)) 2
  have hl:=S10.own.tail.head;have l0:w10.cell? ⟨g0,0,none⟩=some (.int .i64 1):=J0 hl 0;have l1:w10.cell? ⟨g0,1,none⟩=some (.int .i64 7):=J0 hl 1;have l2:w10.cell? ⟨g0,2,none⟩=some (.int .i64 7):=J0 hl 2;have l3:w10.cell? ⟨g0,3,none⟩=some (.string kB):=J0 hl 3;have S11:=hid (S10.pick (l2:=r) (m:=(b9,J1b kd9 tx9 nn9 (.slice a9 n9 c9))::((g0,.cells ([Value.int .i64 1,Value.int .i64 7,Value.int .i64 7,Value.string kB]++rest0).toArray 34 (0,0))::(y++[(vb,J1b 3 tx 7 (.slice a n c))]))) (J2 fun f=>by simp only[SC];omega))
  clear S10 hl q1 q2 q3 q4;go_wp2_with fail;go_ret;exact⟨rfl,S11.out⟩
end Go.Proofs.YtefjbegnlolgbaaGreatDoor
