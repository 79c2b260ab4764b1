/-
texts: join (printed by gen_tjob.py).
-/
import Derived.Test.YtncbcaabanoeoaaGreatDoorQ22
set_option linter.unusedVariables false
set_option linter.unusedSimpArgs false
set_option maxRecDepth 100000
set_option maxHeartbeats 8000000
namespace Go.Proofs.YtncbcaabanoeoaaGreatDoor
open Go Go.RowKit
variable {w0 w:World}{r l R:Hp}{sb g off:Nat}{S:St}{k:ByteArray}{o0 o1 o2 o3 o4 o5:Value}{t:TypeId}
theorem Jca (o:Option Itm) (s:ByteArray) (h:(J1v o s).2=0):∃u,(J1v o s).1=Ji u:=by
 unfold J1v at h⊢;cases o with
 |none=>
  by_cases hb:4096<s.size
  ·simp[hb] at h
  ·simp only[hb,if_false];exact⟨_,rfl⟩
 |some it=>
  by_cases hk:it.kind=2
  ·simp[hk] at h
  ·simp only[hk,if_false] at h⊢
   by_cases hb:4096<it.text.size+s.size
   ·simp[hb] at h
   ·simp only[hb,if_false];exact⟨_,rfl⟩
theorem Jhr (o:Option Itm) (s:ByteArray):(J1v o s).2=0\/(¬(J1v o s).2=0/\K2 (J1v o s).2):=by
 unfold J1v;cases o with
 |none=>
  by_cases hb:4096<s.size
  ·right;simp[hb,K2]
  ·left;simp[hb]
 |some it=>
  by_cases hk:it.kind=2
  ·right;simp[hk,K2]
  ·simp only[hk,if_false]
   by_cases hb:4096<it.text.size+s.size
   ·right;simp[hb,K2]
   ·left;simp[hb]
def Jgz (w0:World) (L x:Hp) (nx:Itm) (rest:List Value) (code:Int) (e:Ending) (w2:World):Prop:=
 ∃va vn vc il,e= .returned (.tuple (.agg #[.int .i64 nx.kind,.string nx.text,.slice va vn vc]::rest).toArray)/\Hid (code=0->il=[]/\Value.slice va vn vc= .slice none 0 0)/\Hid (J3 w0 [] w2 (x++(il++L)))/\Hid (InX w0 L w2)
theorem Jgz.of {il L x:Hp} {nx:Itm} {rest:List Value} {code:Int} {e:Ending} {w2:World} (h:J6a w0 (x++r) il nx rest code e w2) (hL:L=il++r):Jgz w0 L x nx rest code e w2:=by
 obtain⟨va,vn,vc,il',rfl,h1,h2⟩:=h
 subst hL;have h3:=h2.permR (l2:=x++(il'++(il++r))) (J5 fun f=>by simp only[SC];omega)
 exact⟨va,vn,vc,il',rfl,hid h1,hid h3,hid (h3.inX (x++il') (by rw[List.append_assoc]))⟩
theorem Jtm {m:ByteArray} {ws:List ByteArray} (h:Ctx w0 w l r sb S g off (k::m::ws)) (now:Int) (cap:Nat):
 Calls Tryz.prog 48 #[Kv sb now g off (k::m::ws).length cap] w (Jp w0 r sb (Jp9 S now k m).1 (Ja (Jp9 S now k m).2)):=by
 have hm:=h.args.small m (by simp)
 have H:=(h.alloc (Jy sb now g off (k::m::ws).length cap)).alloc J4;have hn:(1:Int)<(((k::m::ws).length:Nat):Int):=by simp only[List.length_cons];omega
 generalize hlen:(k::m::ws).length=n at H hn⊢;replace hlen:=hid hlen;have hn2:1<n:=by omega
 have hn3:(0:Int)<(n:Int):=by omega
 have hn4:0<n:=by omega
 generalize hT:Jp9 S now k m=T;replace hT:=hid hT;clear h;replace H:=hid H;go_enter Tryz.func48,Tryz.ntmps48;unfold Kv;go_wp2_with fail;generalize hw1:(w.alloc _).alloc _=w1;replace H:Ctx w0 w1 _ _ _ _ _ _ _:=hw1▸H.out;clear hw1;simp only[World.size_alloc] at H;generalize w.heap.size=b at H⊢;have hjob:=hid (Ctx.job (A:=[(b+1,J4)]) H);obtain⟨R,hR⟩:∃R,R=[(b+1,J4)]++(b,Jy sb now g off n cap)::r:=⟨_,rfl⟩
 rw[<-hR] at hjob;replace H:Ctx w0 w1 l R sb S g off (k::m::ws):=hR▸H;have hget:∀(w':World) (x:Hp),Hid (J3 w0 [] w' (x++(l++R))->_):=fun w' x=>hid fun hw=>H.get k (by simp) now x hw
 have hs1:Hid (J3 w0 [] w1.drew ([]++(l++R))):=hid H.st.drew;have hs2:Hid (∀o:Obj,J3 w0 [] (w1.alloc o).drew ([(w1.heap.size,o)]++(l++R))):=hid fun o=>(H.st.alloc o).drew
 have hx1:Hid (InX w0 R w1.drew):=hid ⟨l,H.st.drew⟩;have hx0:Hid (InX w0 R w1):=hid ⟨l,H.st⟩;have hright:Hid (∀it,(S.look k now)=some it->J0e it):=hid H.right;have hgl:=hid H.gl;have hgot:Hid (∀(w':World) (l2 x:Hp),Jh l2 sb (S.get k now)->J3 w0 [] w' (l2++(x++R))->Ctx w0 w' l2 (x++R) sb (S.get k now) g off _):=hid fun w' l2 x h1 h2=>H.got k now h1 h2
 replace hR:=hid hR;clear H;obtain⟨kd,hkd⟩:∃kd,kd=((S.look k now).getD Jc).kind:=⟨_,rfl⟩
 obtain⟨tx,htx⟩:∃tx,tx=((S.look k now).getD Jc).text:=⟨_,rfl⟩
 obtain⟨is,his⟩:∃is,is=(S.look k now).isSome:=⟨_,rfl⟩
 rw[<-hkd,<-htx,<-his] at hget;replace hkd:=hid hkd;replace htx:=hid htx;replace his:=hid his;go_cut [3,4] (fun s3 s4 wc=>∃nb va vn vc vl l2,s3= .pointer (some ⟨nb,0,none⟩)/\s4= .bool is/\Hid (Jj (.slice va vn vc) ((S.look k now).getD Jc).fs vl)/\Hid (Jh l2 sb (S.get k now))/\Hid (J3 w0 [] wc ((nb,Jb kd tx (.slice va vn vc))::(l2++(vl++R)))))
 case first=>
  go_region_held3 (fun w'=>w'.cell? ⟨b,0,none⟩=some (ptr sb)/\w'.cell? ⟨b,1,none⟩=some (.int .i64 now)/\w'.cell? ⟨b,2,none⟩=some (.slice (some ⟨g,off,none⟩) n cap)/\w'.cell? ⟨g,off,none⟩=some (.string k)/\Hid (InX w0 R w'))
   (first|(with_reducible exact hjob.out.one hx1)|(with_reducible exact hjob.out.one (by assumption))|(with_reducible exact hjob.out.one (InX.alloc (by assumption) _))|(with_reducible exact hjob.out.one (InX.drew (InX.alloc (by assumption) _)))|(with_reducible exact hjob.out.one (hset.out _ _ _))|(fail "keep"))
   (first|(go_at_call 39;refine((hget _ _).out hs1.out).mono ?_;rintro e w2 ⟨va,vn,vc,vl,l2,rfl,hat,hX,S2,hx2⟩)|(go_at_call 39;refine((hget _ _).out (hs2.out _)).mono ?_;rintro e w2 ⟨va,vn,vc,vl,l2,rfl,hat,hX,S2,hx2⟩;obtain⟨z0,z1,z2,zf⟩:=Jn S2.out.own.head;have zl:=Jf S2.out.own.head;have hset:Hid (∀v0 v1 v2,_):=hid fun v0 v1 v2=>InX.set3 (A:=l2++vl) (by rw[List.append_assoc];exact S2.out) v0 v1 v2))
  ·go_wp2_with fail
   go_meet
   exact⟨_,va,vn,vc,vl,l2,rfl,rfl,hat,hX,hid (S2.out.alloc _)⟩
  ·go_wp2_with fail
   go_meet
   exact⟨_,va,vn,vc,vl,l2,rfl,rfl,hat,hX,hid (((S2.out.set 0 _).set 1 _).set 2 _)⟩
 case rest=>
  obtain⟨nb,va,vn,vc,vl,l2,rfl,rfl,hat,hX,S3⟩:=hcut
  clear hget hs1 hs2 hx1 hx0;obtain⟨L2,hL2⟩:∃L2:Hp,L2=vl++((nb,Jb kd tx (.slice va vn vc))::(l2++R)):=⟨_,rfl⟩
  have S3':=S3.out.permR (l2:=L2) (J5 fun f=>by rw[hL2];simp only[SC];omega)
  have hnext:∀(w':World) (x:Hp),Hid (J3 w0 [] w' (x++L2)->_):=fun w' x=>hid fun hw=>(Jtg (hw.permR (l2:=vl++(x++((nb,Jb kd tx (.slice va vn vc))::(l2++R)))) (J5 fun f=>by rw[hL2];simp only[SC];omega)) hright.out hat.out m hm).mono fun _ _ hp=>Jgz.of hp hL2
  unfold J6 at hnext;rw[<-hkd.out,<-htx.out] at hnext;have htext:=hid (Jca (S.look k now) m);have hknown:=hid (Jhr (S.look k now) m);have hTT:Hid (T=J6q (S.get k now) now k (J1v (S.look k now) m).1 (J1v (S.look k now) m).2 (Jm (J1v (S.look k now) m).1.text.size)):=hid hT.out.symm;have hmem:(nb,Jb kd tx (.slice va vn vc))∈L2:=by rw[hL2];simp
  have hfive:Hid (∀w':World,Hid (InX w0 L2 w')->w'.cell? ⟨nb,0,none⟩=some (.int .i64 kd)/\w'.cell? ⟨nb,1,none⟩=some (.string tx)/\w'.cell? ⟨nb,2,none⟩=some (.slice va vn vc)/\w'.cell? ⟨b,2,none⟩=some (.slice (some ⟨g,off,none⟩) n cap)/\w'.cell? ⟨g,off+1,none⟩=some (.string m)/\Hid (InX w0 L2 w')):=hid (fun w' hx=>by
   obtain⟨x,hw⟩:=hx.out
   have hc:=Jn (hw.own.right.at_ _ hmem)
   have hin:InX w0 R w':=hw.inX (x++vl++[(nb,Jb kd tx (.slice va vn vc))]++l2) (J5 fun f=>by
    rw[hL2];simp only[SC];omega)
   exact⟨hc.c0,hc.c1,hc.c2,(hjob.out.at_ w' hin).c2,hjob.out.arg w' hin 1 m rfl,hx⟩)
  have ht1:Hid (J3 w0 [] wc.drew ([]++L2)):=hid S3'.drew;have ht2:Hid (∀o:Obj,J3 w0 [] (wc.alloc o).drew ([(wc.heap.size,o)]++L2)):=hid fun o=>(S3'.alloc o).drew
  have hy1:Hid (InX w0 L2 wc.drew):=hid ⟨[],S3'.drew⟩;have hy0:Hid (InX w0 L2 wc):=hid ⟨[],S3'⟩;replace hL2:=hid hL2;clear hT hat S3 S3' hright hkd htx his hmem;generalize J1v (S.look k now) m=q at hnext htext hknown hTT;obtain⟨nx,code⟩:=q
  simp only at hnext htext hknown hTT
  obtain⟨y0,y1,y2,y3,y4,_⟩:=hfive.out wc hy0
  go_wp2_with fail;go_cut [5,6] (fun s3 s4 wc=>∃nb2 ua un uc il,s3= .pointer (some ⟨nb2,0,none⟩)/\s4= .int .i64 code/\Hid (code=0->il=[]/\Value.slice ua un uc= .slice none 0 0)/\Hid (J3 w0 [] wc ((nb2,Jb nx.kind nx.text (.slice ua un uc))::(il++L2))))
  case first=>
   go_region_held3 (fun w'=>w'.cell? ⟨nb,0,none⟩=some (.int .i64 kd)/\w'.cell? ⟨nb,1,none⟩=some (.string tx)/\w'.cell? ⟨nb,2,none⟩=some (.slice va vn vc)/\w'.cell? ⟨b,2,none⟩=some (.slice (some ⟨g,off,none⟩) n cap)/\w'.cell? ⟨g,off+1,none⟩=some (.string m)/\Hid (InX w0 L2 w'))
    (first|(with_reducible exact hfive.out _ hy1)|(with_reducible exact hfive.out _ (by assumption))|(with_reducible exact hfive.out _ (InX.alloc (by assumption) _))|(with_reducible exact hfive.out _ (InX.drew (InX.alloc (by assumption) _)))|(with_reducible exact hfive.out _ (hset.out _ _ _))|(fail "keep"))
    (first|(go_at_call 98;refine((hnext _ _).out ht1.out).mono ?_;rintro e w3 ⟨ua,un,uc,il,rfl,hnil,S4,hx4⟩)|(go_at_call 98;refine((hnext _ _).out (ht2.out _)).mono ?_;rintro e w3 ⟨ua,un,uc,il,rfl,hnil,S4,hx4⟩;obtain⟨y0,y1,y2,yf⟩:=Jn S4.out.own.head;have yl:=Jf S4.out.own.head;have hset:Hid (∀v0 v1 v2,_):=hid fun v0 v1 v2=>InX.set3 (A:=il) (R:=L2) S4.out v0 v1 v2))
   ·go_wp2_with fail
    go_meet
    exact⟨_,ua,un,uc,il,rfl,rfl,hnil,hid (S4.out.alloc _)⟩
   ·go_wp2_with fail
    go_meet
    exact⟨_,ua,un,uc,il,rfl,rfl,hnil,hid (((S4.out.set 0 _).set 1 _).set 2 _)⟩
  case rest=>
   obtain⟨nb2,ua,un,uc,il,rfl,rfl,hnil,S5⟩:=hcut
   clear hnext ht1 ht2 hy1 hy0 y0 y1 y2 y3 y4 hfive;rw[hL2.out] at S5;replace S5:=S5.out;go_wp2_with fail;generalize wc=w4 at S5⊢;obtain⟨X,hXX⟩:∃X:Hp,X=(nb2,Jb nx.kind nx.text (.slice ua un uc))::(il++(vl++[(nb,Jb kd tx (.slice va vn vc))])):=⟨_,rfl⟩
   have S6:=S5.permR (l2:=l2++(X++R)) (J5 fun f=>by
    rw[hXX];simp only[SC];omega)
   have hmem:(nb2,Jb nx.kind nx.text (.slice ua un uc))∈X:=by rw[hXX];simp
   have J3c:∀p:InW w0 [] (l2++(X++R)),Jde p.w nb2 (.int .i64 nx.kind) (.string nx.text) (.slice ua un uc):=fun p=>Jn (p.h.own.right.left.at_ _ hmem)
   have i0:∀p:InW w0 [] (l2++(X++R)),p.w.cell? ⟨nb2,0,none⟩=some (.int .i64 nx.kind):=fun p=>(J3c p).c0
   have i1:∀p:InW w0 [] (l2++(X++R)),p.w.cell? ⟨nb2,1,none⟩=some (.string nx.text):=fun p=>(J3c p).c1
   have i2:∀p:InW w0 [] (l2++(X++R)),p.w.cell? ⟨nb2,2,none⟩=some (.slice ua un uc):=fun p=>(J3c p).c2
   have hin:∀p:InW w0 [] (l2++(X++R)),InX w0 R p.w:=fun p=>⟨l2++X,by rw[List.append_assoc];exact p.h⟩
   have j0:∀p:InW w0 [] (l2++(X++R)),p.w.cell? ⟨b,0,none⟩=some (ptr sb):=fun p=>(hjob.out.at_ p.w (hin p)).c0
   have j1:∀p:InW w0 [] (l2++(X++R)),p.w.cell? ⟨b,1,none⟩=some (.int .i64 now):=fun p=>(hjob.out.at_ p.w (hin p)).c1
   have j2:∀p:InW w0 [] (l2++(X++R)),p.w.cell? ⟨b,2,none⟩=some (.slice (some ⟨g,off,none⟩) n cap):=fun p=>(hjob.out.at_ p.w (hin p)).c2
   replace S6:=hid S6;clear J3c hin hmem S5;replace hXX:=hid hXX;refine Jq 7 S6.out (by kernel_rfl) (by kernel_rfl) (fun hne=>?_)
   simp only[List.take_succ_cons,List.take_zero,List.drop_succ_cons,List.drop_zero];repeat (go_big_quiet_step ((go_at_call 59;refine Calls.inw (J15 (InW.h _) _))))
   refine J04 fun w5 S7=>?_
   clear i0 i1 i2 j0 j1 j2 hne S6
   have hkeep:Hid (Calls Tryz.prog 93 #[Kv sb now g off n cap,.agg #[.int .i64 nx.kind,.string nx.text,.slice ua un uc],.int .i64 code,Ja (Jm nx.text.size)] w5 (Jp w0 (X++R) sb T.1 (Ja T.2))):=hid (by
    rw[hTT.out];rcases hknown.out with hc|⟨hne,hkn⟩
    ·obtain⟨s,hs⟩:=htext.out hc
     obtain⟨_,hv⟩:=hnil.out hc
     have hk:=Je8 (hgot.out w5 l2 X hX.out S7) now cap s (Jm (Ji s).text.size);rw[hlen.out] at hk;rw[hv,hs,hc];exact hk
    ·simp only[J6q,if_neg hne]
     exact Je7 S7 hX.out nx.kind nx.text _ code hne hkn (Jm nx.text.size))
   unfold Kv Ja Jm J7 at hkeep;simp only at hkeep
   unfold J7;clear S7 hTT hknown htext hnil hgot hX hjob;go_wp2_with fail;refine hkeep.out.mono ?_;rintro e w6 ⟨rfl,l5,hX5,S8⟩;rw[hR.out] at S8
   have S9:=S8.permR (l2:=(b+1,J4)::(l5++r++(X++[(b,Jy sb now g off n cap)]))) (J5 fun f=>by
    simp only[SC];omega)
   have S10:=hid ((S9.setLf T.2).less (List.sublist_append_left _ _));obtain⟨⟨c0,hc0⟩,⟨c1,hc1⟩,⟨c2,hc2⟩,⟨c3,hc3⟩,⟨c4,hc4⟩,⟨c5,hc5⟩,fz,hlt⟩:=J0d S9.own
   clear hkeep S8 S9 hR hXX;go_wp2_with fail;refine bodyPost_ret (v:=Ja T.2) (by simp[results,Tryz.results48,go_sem,J7,Ja, *]<;>rfl) rfl ?_
   exact⟨rfl,l5,hX5,S10.out⟩
theorem Ctx.peek {ws:List ByteArray} (h:Ctx w0 w l R sb S g off ws) (k:ByteArray) (hk:k∈ws) (now:Int) {w':World} (x:Hp) (hw:J3 w0 [] w' (x++(l++R))):
 Calls Tryz.prog 13 #[ptr sb,.string k,.int .i64 now] w' (J5m w0 R x sb (S.due k now) ((S.look k now).getD Jc).kind ((S.look k now).getD Jc).text (S.look k now).isSome ((S.look k now).getD Jc).fs):=
 (Jak (hw.permR (l2:=l++(x++R)) (J5 fun f=>by simp only[SC];omega)) h.gl h.is (by have:=h.ev;omega) k (h.args.small k hk) now).mono fun _ _ hp=>.of hp
theorem Ctx.peeked {ws:List ByteArray} (h:Ctx w0 w l R sb S g off ws) (k:ByteArray) (now:Int) {w':World} {l2 x:Hp} (hX:Jh l2 sb (S.due k now)) (hS:J3 w0 [] w' (l2++(x++R))):Ctx w0 w' l2 (x++R) sb (S.due k now) g off ws where
 st:=hS
 gl:=h.gl
 is:=hX
 tight:=h.tight.due k now
 load:=by rw[St.load_due h.fit];exact h.load
 args:=h.args.more
theorem Jl {b:Nat} (h:w.heap[b]? =some (.cells #[o0,o1,o2,o3,o4,o5] t (0,0))):Js7 w b:=
 ⟨⟨_,J2 h 0⟩,⟨_,J2 h 1⟩,⟨_,J2 h 2⟩,⟨_,J2 h 3⟩,⟨_,J2 h 4⟩,⟨_,J2 h 5⟩,fun j=>Jg h j,Jf h⟩
theorem Jyq {m:ByteArray} {ws:List ByteArray} (h:Ctx w0 w l r sb S g off (k::m::ws)) (now:Int) (cap:Nat):
 Calls Tryz.prog 41 #[Kv sb now g off (k::m::ws).length cap] w (Jp w0 r sb (tNx S now k m).1 (Ja (tNx S now k m).2)):=by
 have H:=(h.alloc (Jy sb now g off (k::m::ws).length cap)).alloc J4;have hn:(1:Int)<(((k::m::ws).length:Nat):Int):=by simp only[List.length_cons];omega
 generalize hlen:(k::m::ws).length=n at H hn⊢;replace hlen:=hid hlen;have hn2:1<n:=by omega
 have hn3:(0:Int)<(n:Int):=by omega
 have hn4:0<n:=by omega
 generalize hT:tNx S now k m=T;replace hT:=hid hT;clear h;replace H:=hid H;go_enter Tryz.func41,Tryz.ntmps41;unfold Kv;go_wp2_with fail;generalize hw1:(w.alloc _).alloc _=w1;replace H:Ctx w0 w1 _ _ _ _ _ _ _:=hw1▸H.out;clear hw1;simp only[World.size_alloc] at H;generalize w.heap.size=b at H⊢;have hjob:=hid (Ctx.job (A:=[(b+1,J4)]) H);obtain⟨R,hR⟩:∃R,R=[(b+1,J4)]++(b,Jy sb now g off n cap)::r:=⟨_,rfl⟩
 rw[<-hR] at hjob;replace H:Ctx w0 w1 l R sb S g off (k::m::ws):=hR▸H;have hget:∀(w':World) (x:Hp),Hid (J3 w0 [] w' (x++(l++R))->_):=fun w' x=>hid fun hw=>H.peek k (by simp) now x hw
 have hs1:Hid (J3 w0 [] w1.drew ([]++(l++R))):=hid H.st.drew;have hs2:Hid (∀o:Obj,J3 w0 [] (w1.alloc o).drew ([(w1.heap.size,o)]++(l++R))):=hid fun o=>(H.st.alloc o).drew
 have hx1:Hid (InX w0 R w1.drew):=hid ⟨l,H.st.drew⟩;have hx0:Hid (InX w0 R w1):=hid ⟨l,H.st⟩;have hright:Hid (∀it,(S.look k now)=some it->J0e it):=hid H.right;have hgl:=hid H.gl;have hgot:Hid (∀(w':World) (l2 x:Hp),Jh l2 sb (S.due k now)->J3 w0 [] w' (l2++(x++R))->Ctx w0 w' l2 (x++R) sb (S.due k now) g off _):=hid fun w' l2 x h1 h2=>H.peeked k now h1 h2
 replace hR:=hid hR;clear H;obtain⟨kd,hkd⟩:∃kd,kd=((S.look k now).getD Jc).kind:=⟨_,rfl⟩
 obtain⟨tx,htx⟩:∃tx,tx=((S.look k now).getD Jc).text:=⟨_,rfl⟩
 obtain⟨is,his⟩:∃is,is=(S.look k now).isSome:=⟨_,rfl⟩
 rw[<-hkd,<-htx,<-his] at hget;replace hkd:=hid hkd;replace htx:=hid htx;replace his:=hid his;go_cut [3,4] (fun s3 s4 wc=>∃nb va vn vc vl l2,s3= .pointer (some ⟨nb,0,none⟩)/\s4= .bool is/\Hid (Jj (.slice va vn vc) ((S.look k now).getD Jc).fs vl)/\Hid (Jh l2 sb (S.due k now))/\Hid (J3 w0 [] wc ((nb,Jb kd tx (.slice va vn vc))::(l2++(vl++R)))))
 case first=>
  go_region_held3 (fun w'=>w'.cell? ⟨b,0,none⟩=some (ptr sb)/\w'.cell? ⟨b,1,none⟩=some (.int .i64 now)/\w'.cell? ⟨b,2,none⟩=some (.slice (some ⟨g,off,none⟩) n cap)/\w'.cell? ⟨g,off,none⟩=some (.string k)/\Hid (InX w0 R w'))
   (first|(with_reducible exact hjob.out.one hx1)|(with_reducible exact hjob.out.one (by assumption))|(with_reducible exact hjob.out.one (InX.alloc (by assumption) _))|(with_reducible exact hjob.out.one (InX.drew (InX.alloc (by assumption) _)))|(with_reducible exact hjob.out.one (hset.out _ _ _))|(fail "keep"))
   (first|(go_at_call 13;refine((hget _ _).out hs1.out).mono ?_;rintro e w2 ⟨va,vn,vc,vl,l2,rfl,hat,hX,S2,hx2⟩)|(go_at_call 13;refine((hget _ _).out (hs2.out _)).mono ?_;rintro e w2 ⟨va,vn,vc,vl,l2,rfl,hat,hX,S2,hx2⟩;obtain⟨z0,z1,z2,zf⟩:=Jn S2.out.own.head;have zl:=Jf S2.out.own.head;have hset:Hid (∀v0 v1 v2,_):=hid fun v0 v1 v2=>InX.set3 (A:=l2++vl) (by rw[List.append_assoc];exact S2.out) v0 v1 v2))
  ·go_wp2_with fail
   go_meet
   exact⟨_,va,vn,vc,vl,l2,rfl,rfl,hat,hX,hid (S2.out.alloc _)⟩
  ·go_wp2_with fail
   go_meet
   exact⟨_,va,vn,vc,vl,l2,rfl,rfl,hat,hX,hid (((S2.out.set 0 _).set 1 _).set 2 _)⟩
 case rest=>
  obtain⟨nb,va,vn,vc,vl,l2,rfl,rfl,hat,hX,S3⟩:=hcut
  clear hget hs1 hs2 hx1 hx0 hgl hright hkd htx;obtain⟨X,hXX⟩:∃X:Hp,X=(nb,Jb kd tx (.slice va vn vc))::vl:=⟨_,rfl⟩
  have S6:=S3.out.permR (l2:=l2++(X++R)) (J5 fun f=>by
   rw[hXX];simp only[SC];omega)
  have hend:∀(w':World) (l3:Hp) (a':Lf),J3 w0 [] w' (l3++(X++R))->J3 w0 [] _ (l3++r):=fun w' l3 a' h=>((h.permR (l2:=(b+1,J4)::(l3++r++(X++[(b,Jy sb now g off n cap)]))) (J5 fun f=>by
   rw[hR.out];simp only[SC];omega)).setLf a').less (List.sublist_append_left _ _)
  have hres:(b+1,J4)∈R:=by rw[hR.out];simp
  clear S3 hat;replace hXX:=hid hXX;cases his2:is with
  |true=>
   have e:tNx S now k m=(S.due k now,Jm 0):=by unfold tNx;rw[<-his.out,his2];rfl
   rw[hT.out] at e;replace e:=hid e;have hint:=hid (J15 S6 0);clear hT his S6 hgot his2 hjob;go_wp2_with fail;refine hint.out.mono ?_;rintro e1 w3 ⟨rfl,S5⟩;have S9:=hid (hend w3 l2 (Jm 0) S5);obtain⟨⟨c0,hc0⟩,⟨c1,hc1⟩,⟨c2,hc2⟩,⟨c3,hc3⟩,⟨c4,hc4⟩,⟨c5,hc5⟩,fz,hlt⟩:=Jl (S5.own.right.right.at_ _ hres)
   clear hint S5 hend hres hR hXX;unfold J7;go_wp2_with fail;refine bodyPost_ret (v:=Ja (Jm 0)) (by simp[results,Tryz.results41,go_sem,J7,Ja,Jm, *]<;>rfl) rfl ?_
   rw[e.out];exact⟨rfl,l2,hX.out,S9.out⟩
  |false=>
   have e:tNx S now k m=J7c (S.due k now) now k m (Jm 1):=by unfold tNx;rw[<-his.out,his2];rfl
   rw[hT.out] at e;replace e:=hid e;have hin:∀p:InW w0 [] (l2++(X++R)),InX w0 R p.w:=fun p=>⟨l2++X,by rw[List.append_assoc];exact p.h⟩
   have j0:∀p:InW w0 [] (l2++(X++R)),p.w.cell? ⟨b,0,none⟩=some (ptr sb):=fun p=>(hjob.out.at_ p.w (hin p)).c0
   have j1:∀p:InW w0 [] (l2++(X++R)),p.w.cell? ⟨b,1,none⟩=some (.int .i64 now):=fun p=>(hjob.out.at_ p.w (hin p)).c1
   have j2:∀p:InW w0 [] (l2++(X++R)),p.w.cell? ⟨b,2,none⟩=some (.slice (some ⟨g,off,none⟩) n cap):=fun p=>(hjob.out.at_ p.w (hin p)).c2
   have ja:∀p:InW w0 [] (l2++(X++R)),p.w.cell? ⟨g,off+1,none⟩=some (.string m):=fun p=>hjob.out.arg p.w (hin p) 1 m rfl
   replace S6:=hid S6;clear hT his his2 hin hjob;go_wp2_with fail;refine Jq 6 S6.out (by kernel_rfl) (by kernel_rfl) (fun hne=>?_)
   simp only[List.take_succ_cons,List.take_zero,List.drop_succ_cons,List.drop_zero];repeat (go_big_quiet_step ((go_at_call 59;refine Calls.inw (J15 (InW.h _) _))))
   refine J04 fun w5 S7=>?_
   clear j0 j1 j2 ja hne S6;have hfr:=Jg0 (hgot.out w5 l2 X hX.out S7) now cap m (Jm 1);rw[hlen.out,<-e.out] at hfr;unfold Kv Ja Jm J7 at hfr;replace hfr:=hid hfr;unfold J7;clear S7 e hgot hX;go_wp2_with fail;refine hfr.out.mono ?_;rintro e w6 ⟨rfl,l5,hX5,S8⟩;have S9:=hid (hend w6 l5 T.2 S8);obtain⟨⟨c0,hc0⟩,⟨c1,hc1⟩,⟨c2,hc2⟩,⟨c3,hc3⟩,⟨c4,hc4⟩,⟨c5,hc5⟩,fz,hlt⟩:=Jl (S8.own.right.right.at_ _ hres)
   clear hfr S8 hend hres hR hXX;go_wp2_with fail;refine bodyPost_ret (v:=Ja T.2) (by simp[results,Tryz.results41,go_sem,J7,Ja, *]<;>rfl) rfl ?_
   exact⟨rfl,l5,hX5,S9.out⟩
theorem Jf1 (hS:J3 w0 [] w r) (o:Option Itm) (v:Value):
 Calls Tryz.prog 38 #[.agg #[.int .i64 (o.getD Jc).kind,.string (o.getD Jc).text,v],.bool o.isSome] w (Kr w0 r (Ja (J3j o))):=by
 cases o with
 |none=>exact Jf2 hS _ _ v
 |some it=>
  simp only[Option.getD_some,Option.isSome_some,J3j];by_cases hk:it.kind=2
  ·rw[if_pos hk,hk];exact Js1 hS _ v
  ·rw[if_neg hk];exact Jgm hS _ _ v hk
theorem InX.set6 {A:Hp} {nb:Nat} (h:J3 w0 [] w ((nb,.cells #[o0,o1,o2,o3,o4,o5] t (0,0))::(A++R))) (v0 v1 v2 v3 v4 v5:Value):
 Hid (InX w0 R ((((((w.setCell ⟨nb,0,none⟩ v0).setCell ⟨nb,1,none⟩ v1).setCell ⟨nb,2,none⟩ v2).setCell ⟨nb,3,none⟩ v3).setCell ⟨nb,4,none⟩ v4).setCell ⟨nb,5,none⟩ v5)):=
 hid ⟨A,((((((h.set 0 v0).set 1 v1).set 2 v2).set 3 v3).set 4 v4).set 5 v5).less (List.sublist_cons_self _ _)⟩
theorem J3.setLf' {b:Nat} (h:J3 w0 l w ((b,.cells #[o0,o1,o2,o3,o4,o5] t (0,0))::r)) (a:Lf):
 J3 w0 l ((((((w.setCell ⟨b,0,none⟩ (.int .i64 a.kind)).setCell ⟨b,1,none⟩ (.string a.text)).setCell ⟨b,2,none⟩ (.int .i64 a.n)).setCell ⟨b,3,none⟩ (.float .f64 0)).setCell ⟨b,4,none⟩ (.bool false)).setCell ⟨b,5,none⟩ (.slice none 0 0)) ((b,.cells #[.int .i64 a.kind,.string a.text,.int .i64 a.n,.float .f64 0,.bool false,.slice none 0 0] t (0,0))::r):=by
 have k:=(((((h.set 0 (.int .i64 a.kind)).set 1 (.string a.text)).set 2 (.int .i64 a.n)).set 3 (.float .f64 0)).set 4 (.bool false)).set 5 (.slice none 0 0);rw[set6] at k;exact k
theorem Jkf (l2 vl R:Hp):(l2++(vl++R)).Perm (l2++R++vl):=J5 fun f=>by simp only[SC];omega
theorem Jla {ws:List ByteArray} (h:Ctx w0 w l r sb S g off (k::ws)) (now:Int) (cap:Nat) (m:ByteArray) (drop:Bool) (hm:drop=false->∃l,ws=m::l):
 Calls Tryz.prog 42 #[Kv sb now g off (k::ws).length cap,.bool drop] w (Jp w0 r sb (Jcm S now k m drop).1 (Ja (Jcm S now k m drop).2)):=by
 have H:=(h.alloc (Jy sb now g off (k::ws).length cap)).alloc J4;have hn:(0:Int)<(((k::ws).length:Nat):Int):=by simp only[List.length_cons];omega
 generalize hlen:(k::ws).length=n at H hn⊢;replace hlen:=hid hlen;have hn2:0<n:=by omega
 have hn3:(0:Int)<(n:Int):=by omega
 have hn4:0<n:=by omega
 generalize hT:Jcm S now k m drop=T;replace hT:=hid hT;clear h;replace H:=hid H;go_enter Tryz.func42,Tryz.ntmps42;unfold Kv;go_wp2_with fail;generalize hw1:(w.alloc _).alloc _=w1;replace H:Ctx w0 w1 _ _ _ _ _ _ _:=hw1▸H.out;clear hw1;simp only[World.size_alloc] at H;generalize w.heap.size=b at H⊢;have hjob:=hid (Ctx.job (A:=[(b+1,J4)]) H);obtain⟨R,hR⟩:∃R,R=[(b+1,J4)]++(b,Jy sb now g off n cap)::r:=⟨_,rfl⟩
 rw[<-hR] at hjob;replace H:Ctx w0 w1 l R sb S g off (k::ws):=hR▸H;have hget:∀(w':World) (x:Hp),Hid (J3 w0 [] w' (x++(l++R))->_):=fun w' x=>hid fun hw=>H.get k (by simp) now x hw
 have hs1:Hid (J3 w0 [] w1.drew ([]++(l++R))):=hid H.st.drew;have hs2:Hid (∀o:Obj,J3 w0 [] (w1.alloc o).drew ([(w1.heap.size,o)]++(l++R))):=hid fun o=>(H.st.alloc o).drew
 have hx1:Hid (InX w0 R w1.drew):=hid ⟨l,H.st.drew⟩;have hx0:Hid (InX w0 R w1):=hid ⟨l,H.st⟩;have hgot:Hid (∀(w':World) (l2 x:Hp),Jh l2 sb (S.get k now)->J3 w0 [] w' (l2++(x++R))->Ctx w0 w' l2 (x++R) sb (S.get k now) g off _):=hid fun w' l2 x h1 h2=>H.got k now h1 h2
 have hkl:=H.args.small k (by simp)
 replace hR:=hid hR;clear H;have htold:∀(w':World) (L:Hp) (v:Value),Hid (J3 w0 [] w' L->_):=fun w' L v=>hid fun hw=>Jf1 hw (S.look k now) v
 obtain⟨a,ha⟩:∃a,a=J3j (S.look k now):=⟨_,rfl⟩
 rw[<-ha] at htold;unfold Ja J7 at htold;generalize ((S.look k now).getD Jc).kind=kd at hget htold;generalize ((S.look k now).getD Jc).text=tx at hget htold;generalize (S.look k now).isSome=is at hget htold;generalize ((S.look k now).getD Jc).fs=fs at hget;have hTT:Hid (T=if a.kind=2 then(S.get k now,a) else if drop then(((S.get k now).due k now).gone k 2,a) else J7c (S.get k now) now k m a):=hid (by rw[<-hT.out,Jcm,<-ha])
 clear hT ha;go_cut [5] (fun s5 wc=>∃nb l2,s5= .pointer (some ⟨nb,0,none⟩)/\Hid (Jh l2 sb (S.get k now))/\Hid (J3 w0 [] wc ((nb,J0h a)::(l2++R))))
 case first=>
  go_region_held3 (fun w'=>w'.cell? ⟨b,0,none⟩=some (ptr sb)/\w'.cell? ⟨b,1,none⟩=some (.int .i64 now)/\w'.cell? ⟨b,2,none⟩=some (.slice (some ⟨g,off,none⟩) n cap)/\w'.cell? ⟨g,off,none⟩=some (.string k)/\Hid (InX w0 R w'))
   (first|(with_reducible exact hjob.out.one hx1)|(with_reducible exact hjob.out.one (hset.out _ _ _ _ _ _))|(with_reducible exact hjob.out.one (by assumption))|(with_reducible exact hjob.out.one (InX.alloc (by assumption) _))|(with_reducible exact hjob.out.one (InX.drew (InX.alloc (by assumption) _)))|(fail "keep"))
   (first|(go_at_call 39;refine((hget _ _).out hs1.out).mono ?_;rintro e w2 ⟨va,vn,vc,vl,l2,rfl,hat,hX,S2,hx2⟩)|(go_at_call 39;refine((hget _ _).out (hs2.out _)).mono ?_;rintro e w2 ⟨va,vn,vc,vl,l2,rfl,hat,hX,S2,hx2⟩)|(go_at_call 38;refine((htold _ _ _).out S2.out).mono ?_;rintro e w3 ⟨rfl,S3⟩;obtain⟨⟨c0,hc0⟩,⟨c1,hc1⟩,⟨c2,hc2⟩,⟨c3,hc3⟩,⟨c4,hc4⟩,⟨c5,hc5⟩,fz,hlt⟩:=Jl S3.own.head;have hset:Hid (∀v0 v1 v2 v3 v4 v5,_):=hid fun v0 v1 v2 v3 v4 v5=>InX.set6 (A:=l2++vl) (R:=R) (by rw[List.append_assoc];exact S3) v0 v1 v2 v3 v4 v5;have hx3:Hid (InX w0 R w3):=hid (S3.inX ([_]++(l2++vl)) (by rw[List.append_assoc,List.append_assoc]));replace S3:=hid S3)|(go_at_call 38;refine((htold _ _ _).out S2.out).mono ?_;rintro e w3 ⟨rfl,S3⟩;have hx3:Hid (InX w0 R w3):=hid (S3.inX ([]++(l2++vl)) (by rw[List.append_assoc,List.append_assoc]));replace S3:=hid S3)|(go_at_call 38;refine((htold _ _ _).out (S2.out.alloc _)).mono ?_;rintro e w3 ⟨rfl,S3⟩;obtain⟨⟨c0,hc0⟩,⟨c1,hc1⟩,⟨c2,hc2⟩,⟨c3,hc3⟩,⟨c4,hc4⟩,⟨c5,hc5⟩,fz,hlt⟩:=Jl S3.own.head;have hset:Hid (∀v0 v1 v2 v3 v4 v5,_):=hid fun v0 v1 v2 v3 v4 v5=>InX.set6 (A:=l2++vl) (R:=R) (by rw[List.append_assoc];exact S3) v0 v1 v2 v3 v4 v5;have hx3:Hid (InX w0 R w3):=hid (S3.inX ([_]++(l2++vl)) (by rw[List.append_assoc,List.append_assoc];rfl));replace S3:=hid S3))
  ·go_wp2_with fail
   go_meet
   exact⟨_,l2,rfl,hX,hid (((S3.out.pick (l2:=l2++R) (m:=vl) (J5 fun f=>by simp only[List.map_append,List.sum_append,List.map_nil,List.sum_nil];omega))).alloc _)⟩
  ·go_wp2_with fail
   go_meet
   have h3:J3 w0 [] _ ((w2.heap.size,J0h a)::(l2++(vl++R))):=S3.out.setLf' a;exact⟨_,l2,rfl,hX,hid (h3.pick (m:=vl) (List.Perm.cons _ (Jkf l2 vl R)))⟩
  ·go_wp2_with fail
   go_meet
   have h3:J3 w0 [] _ ((w1.heap.size,J0h a)::(l2++(vl++R))):=S3.out.setLf' a;exact⟨_,l2,rfl,hX,hid (h3.pick (m:=vl) (List.Perm.cons _ (Jkf l2 vl R)))⟩
 case rest=>
  obtain⟨nb,l2,rfl,hX,S3⟩:=hcut
  clear hget hs1 hs2 hx1 hx0 htold;obtain⟨X,hXX⟩:∃X:Hp,X=[(nb,J0h a)]:=⟨_,rfl⟩
  have S6:=S3.out.permR (l2:=l2++(X++R)) (J5 fun f=>by
   rw[hXX];simp only[SC];omega)
  have hend:∀(w':World) (l3:Hp) (a':Lf),J3 w0 [] w' (l3++(X++R))->J3 w0 [] _ (l3++r):=fun w' l3 a' h=>((h.permR (l2:=(b+1,J4)::(l3++r++(X++[(b,Jy sb now g off n cap)]))) (J5 fun f=>by
   rw[hR.out];simp only[SC];omega)).setLf a').less (List.sublist_append_left _ _)
  have hres:(b+1,J4)∈R:=by rw[hR.out];simp
  have hmem:(nb,J0h a)∈X:=by rw[hXX];simp
  have hne:¬nb=b+1:=by
   have hnd:=S3.out.own.nd;rw[J0y,List.nodup_cons] at hnd;intro e
   apply hnd.1
   rw[J1h,List.mem_append,e];exact .inr (List.mem_map.2 ⟨(b+1,J4),hres,rfl⟩)
  have hne2:¬b+1=nb:=fun e=>hne e.symm
  clear S3;replace hXX:=hid hXX;obtain⟨n0,n1,n2,n3,n4,n5⟩:=Jmq (S6.own.right.left.at_ _ hmem)
  by_cases h2:a.kind=2
  ·have e:Hid (T=(S.get k now,a)):=hid (by rw[hTT.out,if_pos h2])
   have h2b:(a.kind==2)=true:=by rw[h2];rfl
   have S9:=hid (hend _ l2 a S6);obtain⟨⟨c0,hc0⟩,⟨c1,hc1⟩,⟨c2,hc2⟩,⟨c3,hc3⟩,⟨c4,hc4⟩,⟨c5,hc5⟩,fz,hlt⟩:=Jl (S6.own.right.right.at_ _ hres)
   clear hTT h2 S6 hend hres hR hXX hjob hmem hgot;go_wp2_with fail;refine bodyPost_ret (v:=Ja a) (by simp[results,Tryz.results42,go_sem,J7,Ja, *]<;>rfl) rfl ?_
   rw[e.out];exact⟨rfl,l2,hX.out,S9.out⟩
  ·have h2b:(a.kind==2)=false:=by simpa using h2
   have hin:∀p:InW w0 [] (l2++(X++R)),InX w0 R p.w:=fun p=>⟨l2++X,by rw[List.append_assoc];exact p.h⟩
   have j0:∀p:InW w0 [] (l2++(X++R)),p.w.cell? ⟨b,0,none⟩=some (ptr sb):=fun p=>(hjob.out.at_ p.w (hin p)).c0
   have j1:∀p:InW w0 [] (l2++(X++R)),p.w.cell? ⟨b,1,none⟩=some (.int .i64 now):=fun p=>(hjob.out.at_ p.w (hin p)).c1
   have j2:∀p:InW w0 [] (l2++(X++R)),p.w.cell? ⟨b,2,none⟩=some (.slice (some ⟨g,off,none⟩) n cap):=fun p=>(hjob.out.at_ p.w (hin p)).c2
   cases drop with
   |true=>
    have e:Hid (T=(((S.get k now).due k now).gone k 2,a)):=hid (by rw[hTT.out,if_neg h2];rfl)
    have ja:∀p:InW w0 [] (l2++(X++R)),p.w.cell? ⟨g,off,none⟩=some (.string k):=fun p=>hjob.out.arg p.w (hin p) 0 k rfl
    have hG:=hid (hgot.out _ l2 X hX.out S6);replace S6:=hid S6;clear hTT h2 hin hjob hgot;go_wp2_with fail;refine Jq 8 S6.out (by kernel_rfl) (by kernel_rfl) (fun hne=>?_)
    simp only[List.take_succ_cons,List.take_zero,List.drop_succ_cons,List.drop_zero];repeat (go_big_quiet_step (fail))
    refine J04 fun w5 S7=>?_
    clear j0 j1 j2 ja hne S6 n0 n1 n2 n3 n4 n5;have hdrop:=hid (Jbn S7 hG.out.gl hX.out (by have:=hG.out.ev;omega) k hkl now)
    clear S7 hG hX;go_wp2_with fail;refine hdrop.out.mono ?_;rintro e1 w6 ⟨rfl,l5,hX5,S8⟩;obtain⟨n0,n1,n2,n3,n4,n5⟩:=Jmq (S8.own.right.left.at_ _ hmem)
    have S9:=hid (hend w6 l5 a S8);obtain⟨⟨c0,hc0⟩,⟨c1,hc1⟩,⟨c2,hc2⟩,⟨c3,hc3⟩,⟨c4,hc4⟩,⟨c5,hc5⟩,fz,hlt⟩:=Jl (S8.own.right.right.at_ _ hres)
    clear hdrop S8 hend hres hR hXX hmem;go_wp2_with fail;refine bodyPost_ret (v:=Ja a) (by simp[results,Tryz.results42,go_sem,J7,Ja, *]<;>rfl) rfl ?_
    rw[e.out];exact⟨rfl,l5,hX5,S9.out⟩
   |false=>
    obtain⟨ws',hws⟩:=hm rfl
    subst hws;have e:Hid (T=J7c (S.get k now) now k m a):=hid (by rw[hTT.out,if_neg h2];rfl)
    have hn5:1<n:=by rw[<-hlen.out];simp only[List.length_cons];omega
    have hn6:(1:Int)<(n:Int):=by omega
    have ja:∀p:InW w0 [] (l2++(X++R)),p.w.cell? ⟨g,off+1,none⟩=some (.string m):=fun p=>hjob.out.arg p.w (hin p) 1 m rfl
    have hlf:∀p:InW w0 [] (l2++(X++R)),Jy0 p.w nb a:=fun p=>Jmq (p.h.own.right.left.at_ _ hmem)
    have m0:∀p:InW w0 [] (l2++(X++R)),p.w.cell? ⟨nb,0,none⟩=some (.int .i64 a.kind):=fun p=>(hlf p).c0
    have m1:∀p:InW w0 [] (l2++(X++R)),p.w.cell? ⟨nb,1,none⟩=some (.string a.text):=fun p=>(hlf p).c1
    have m2:∀p:InW w0 [] (l2++(X++R)),p.w.cell? ⟨nb,2,none⟩=some (.int .i64 a.n):=fun p=>(hlf p).c2
    have m3:∀p:InW w0 [] (l2++(X++R)),p.w.cell? ⟨nb,3,none⟩=some (.float .f64 0):=fun p=>(hlf p).c3
    have m4:∀p:InW w0 [] (l2++(X++R)),p.w.cell? ⟨nb,4,none⟩=some (.bool false):=fun p=>(hlf p).c4
    have m5:∀p:InW w0 [] (l2++(X++R)),p.w.cell? ⟨nb,5,none⟩=some (.slice none 0 0):=fun p=>(hlf p).c5
    replace S6:=hid S6;clear hTT h2 hin hjob hlf;go_wp2_with fail;refine Jq 6 S6.out (by kernel_rfl) (by kernel_rfl) (fun hne=>?_)
    simp only[List.take_succ_cons,List.take_zero,List.drop_succ_cons,List.drop_zero];repeat (go_big_quiet_step (fail))
    refine J04 fun w5 S7=>?_
    clear j0 j1 j2 ja hne S6 m0 m1 m2 m3 m4 m5 n0 n1 n2 n3 n4 n5;have hfr:=Jg0 (hgot.out w5 l2 X hX.out S7) now cap m a;rw[hlen.out,<-e.out] at hfr;unfold Kv Ja J7 at hfr;replace hfr:=hid hfr;clear S7 e hgot hX;go_wp2_with fail;refine hfr.out.mono ?_;rintro e w6 ⟨rfl,l5,hX5,S8⟩;have S9:=hid (hend w6 l5 T.2 S8);obtain⟨⟨c0,hc0⟩,⟨c1,hc1⟩,⟨c2,hc2⟩,⟨c3,hc3⟩,⟨c4,hc4⟩,⟨c5,hc5⟩,fz,hlt⟩:=Jl (S8.own.right.right.at_ _ hres)
    clear hfr S8 hend hres hR hXX hmem;go_wp2_with fail;refine bodyPost_ret (v:=Ja T.2) (by simp[results,Tryz.results42,go_sem,J7,Ja, *]<;>rfl) rfl ?_
    exact⟨rfl,l5,hX5,S9.out⟩
end Go.Proofs.YtncbcaabanoeoaaGreatDoor
