/-
item.Add and item.Append, whatever the item is.
-/
import Derived.Test.YtncbcaabanoeoaaGreatDoorQ21
set_option linter.unusedVariables false
set_option linter.unusedSimpArgs false
set_option maxRecDepth 100000
set_option maxHeartbeats 8000000
namespace Go.Proofs.YtncbcaabanoeoaaGreatDoor
open Go Go.RowKit
variable {w0 w:World}{l r il:Hp}{v:Value}{it:Itm}{sb g off:Nat}{S:St}{k:ByteArray}
theorem K06 (o0 o1 o2 v0 v1 v2:Value):(((#[o0,o1,o2]:Array Value).setIfInBounds 0 v0).setIfInBounds 1 v1).setIfInBounds 2 v2= #[v0,v1,v2]:=by kernel_rfl
theorem J3.setItem {b:Nat} {o0 o1 o2:Value} {t:TypeId} (h:J3 w0 l w ((b,.cells #[o0,o1,o2] t (0,0))::r)) (kd:Int) (tx:ByteArray) (v:Value):
 J3 w0 l (((w.setCell ⟨b,0,none⟩ (.int .i64 kd)).setCell ⟨b,1,none⟩ (.string tx)).setCell ⟨b,2,none⟩ v) ((b,.cells #[.int .i64 kd,.string tx,v] t (0,0))::r):=by
 have k:=((h.set 0 (.int .i64 kd)).set 1 (.string tx)).set 2 v;rw[K06] at k;exact k
def J6a (w0:World) (r il:Hp) (nx:Itm) (rest:List Value) (code:Int) (e:Ending) (w':World):Prop:=
 ∃va vn vc il',e= .returned (.tuple (.agg #[.int .i64 nx.kind,.string nx.text,.slice va vn vc]::rest).toArray)/\(code=0->il'=[]/\Value.slice va vn vc= .slice none 0 0)/\J3 w0 [] w' (il'++(il++r))
theorem Jqm (hS:J3 w0 [] w (il++r)) (hk:it.kind=2) (hat:Jj v it.fs il) (hB:it.fs.length<=1048576) (n:Int):
 Calls Tryz.prog 92 #[J6 it.kind it.text v,.int .i64 n] w (J6a w0 r il it [.int .i64 0,.int .i64 91] 91):=by
 obtain⟨kd,tx,fs⟩:=it
 simp only at hk hat hB⊢
 subst hk;obtain⟨a,c,rfl⟩:=hat.shape
 have S1:=(hS.alloc (Jb 2 tx (.slice a fs.length c))).alloc (Jb 0 ByteArray.empty (.slice none 0 0));rw[World.size_alloc] at S1;have S1':=S1.permR (l2:=il++((w.heap.size+1,Jb 0 ByteArray.empty (.slice none 0 0))::(w.heap.size,Jb 2 tx (.slice a fs.length c))::r)) (J5 fun f=>by simp only[SC];omega)
 have hcopy:=hid (J39 (kind:=2) (text:=tx) S1' hat hB);clear hS S1 S1' hat;go_enter Tryz.func92,Tryz.ntmps92;unfold J6;unfold J6 at hcopy;go_wp2_with fail;refine hcopy.out.mono ?_;rintro e w1 ⟨v',sl',rfl,hat',S2⟩;obtain⟨a',c',rfl⟩:=hat'.shape
 have S3:=S2.permR (l2:=(w.heap.size+1,Jb 0 ByteArray.empty (.slice none 0 0))::(sl'++(il++r)++[(w.heap.size,Jb 2 tx (.slice a fs.length c))])) (J5 fun f=>by simp only[SC];omega)
 generalize w.heap.size=b at S3⊢;obtain⟨x0,x1,x2,fz⟩:=Jn S3.own.head
 have hlt:=Jf S3.own.head;have S4:=hid (((S3.setItem 2 tx (.slice a' fs.length c')).less (List.sublist_cons_self _ _)).less (List.sublist_append_left _ _));clear hcopy S2 S3 hat';go_wp2_with fail;refine bodyPost_ret (v:=.tuple #[.agg #[.int .i64 2,.string tx,.slice a' fs.length c'],.int .i64 0,.int .i64 91]) (by simp[results,Tryz.results92,go_sem, *]<;>rfl) rfl ?_
 exact⟨a',_,c',sl',rfl,fun h=>absurd h (by decide),S4.out⟩
theorem Jqo (hS:J3 w0 [] w (il++r)) (hk:it.kind=2) (hat:Jj v it.fs il) (hB:it.fs.length<=1048576) (s:ByteArray):
 Calls Tryz.prog 98 #[J6 it.kind it.text v,.string s] w (J6a w0 r il it [.int .i64 91] 91):=by
 obtain⟨kd,tx,fs⟩:=it
 simp only at hk hat hB⊢
 subst hk;obtain⟨a,c,rfl⟩:=hat.shape
 have S1:=(hS.alloc (Jb 2 tx (.slice a fs.length c))).alloc (Jb 0 ByteArray.empty (.slice none 0 0));rw[World.size_alloc] at S1;have S1':=S1.permR (l2:=il++((w.heap.size+1,Jb 0 ByteArray.empty (.slice none 0 0))::(w.heap.size,Jb 2 tx (.slice a fs.length c))::r)) (J5 fun f=>by simp only[SC];omega)
 have hcopy:=hid (J39 (kind:=2) (text:=tx) S1' hat hB);clear hS S1 S1' hat;go_enter Tryz.func98,Tryz.ntmps98;unfold J6;unfold J6 at hcopy;go_wp2_with fail;refine hcopy.out.mono ?_;rintro e w1 ⟨v',sl',rfl,hat',S2⟩;obtain⟨a',c',rfl⟩:=hat'.shape
 have S3:=S2.permR (l2:=(w.heap.size+1,Jb 0 ByteArray.empty (.slice none 0 0))::(sl'++(il++r)++[(w.heap.size,Jb 2 tx (.slice a fs.length c))])) (J5 fun f=>by simp only[SC];omega)
 generalize w.heap.size=b at S3⊢;obtain⟨x0,x1,x2,fz⟩:=Jn S3.own.head
 have hlt:=Jf S3.own.head;have S4:=hid (((S3.setItem 2 tx (.slice a' fs.length c')).less (List.sublist_cons_self _ _)).less (List.sublist_append_left _ _));clear hcopy S2 S3 hat';go_wp2_with fail;refine bodyPost_ret (v:=.tuple #[.agg #[.int .i64 2,.string tx,.slice a' fs.length c'],.int .i64 91]) (by simp[results,Tryz.results98,go_sem, *]<;>rfl) rfl ?_
 exact⟨a',_,c',sl',rfl,fun h=>absurd h (by decide),S4.out⟩
theorem J3o (hf:it.fs=[]) (hat:Jj v it.fs il):v= .slice none 0 0/\il=[]:=by
 have hv:=hat.nil hf;subst hv;have:=hat.sl
 rw[hf] at this;refine⟨rfl,?_⟩
 cases this
 rfl
theorem Jjs {o:Option Itm} (hS:J3 w0 [] w (il++r)) (hG:J17 w0) (hr:∀it,o=some it->J0e it) (hat:Jj v (o.getD Jc).fs il) (n:Int) (hn: -9223372036854775808<=n/\n<=9223372036854775807):
 Calls Tryz.prog 92 #[J6 (o.getD Jc).kind (o.getD Jc).text v,.int .i64 n] w (J6a w0 r il (J2p o n).1 [.int .i64 (J2p o n).2.1,.int .i64 (J2p o n).2.2] (J2p o n).2.2):=by
 cases o with
 |none=>
  obtain⟨rfl,rfl⟩:=J3o rfl hat
  refine(Jtd hS hG n hn).mono ?_
  rintro e w' ⟨rfl,h⟩;exact⟨none,0,0,[],rfl,fun _=>⟨rfl,rfl⟩,h⟩
 |some it=>
  simp only[Option.getD_some] at hat⊢;have hit:=hr it rfl;rcases hit with⟨h1,h2,h3⟩|⟨h1,_,_,_,h5,_⟩
  ·obtain⟨rfl,rfl⟩:=J3o h3 hat
   have hk2:¬it.kind=2:=by omega
   simp only[J2p,if_neg hk2];rw[h1];cases hw:J2f it.text with
   |none=>
    refine(Jte hS hG it.text (by omega) hw n).mono ?_
    rintro e w' ⟨rfl,h⟩;exact⟨none,0,0,[],by rw[h1];rfl,fun _=>⟨rfl,rfl⟩,h⟩
   |some m=>
    simp only
    cases ha:J3d m n with
    |none=>
     refine(Jqn hS hG it.text (by omega) m hw n hn ha).mono ?_
     rintro e w' ⟨rfl,h⟩;exact⟨none,0,0,[],by rw[h1];rfl,fun _=>⟨rfl,rfl⟩,h⟩
    |some k=>
     refine(Jtf hS hG it.text (by omega) m hw n hn k ha).mono ?_
     rintro e w' ⟨rfl,h⟩;exact⟨none,0,0,[],rfl,fun _=>⟨rfl,rfl⟩,h⟩
  ·simp only[J2p,if_pos h1]
   exact Jqm hS h1 hat (by omega) n
theorem Jtg {o:Option Itm} (hS:J3 w0 [] w (il++r)) (hr:∀it,o=some it->J0e it) (hat:Jj v (o.getD Jc).fs il) (s:ByteArray) (hs:s.size<=1099511627776):
 Calls Tryz.prog 98 #[J6 (o.getD Jc).kind (o.getD Jc).text v,.string s] w (J6a w0 r il (J1v o s).1 [.int .i64 (J1v o s).2] (J1v o s).2):=by
 cases o with
 |none=>
  obtain⟨rfl,rfl⟩:=J3o rfl hat
  by_cases hb:4096<s.size
  ·simp only[J1v,if_pos hb]
   refine(Jjt hS 0 (by decide) ByteArray.empty s (by decide) hs (by show 4096<0+s.size;omega)).mono ?_
   rintro e w' ⟨rfl,h⟩;exact⟨none,0,0,[],rfl,fun _=>⟨rfl,rfl⟩,h⟩
  ·simp only[J1v,if_neg hb]
   refine(Je5 hS 0 (by decide) ByteArray.empty s (by show 0+s.size<=4096;omega)).mono ?_
   rintro e w' ⟨rfl,h⟩;exact⟨none,0,0,[],by rw[ByteArray.empty_append];rfl,fun _=>⟨rfl,rfl⟩,h⟩
 |some it=>
  simp only[Option.getD_some] at hat⊢;have hit:=hr it rfl;rcases hit with⟨h1,h2,h3⟩|⟨h1,_,_,_,h5,_⟩
  ·obtain⟨rfl,rfl⟩:=J3o h3 hat
   have hk2:¬it.kind=2:=by omega
   simp only[J1v,if_neg hk2];by_cases hb:4096<it.text.size+s.size
   ·simp only[if_pos hb]
    refine(Jjt hS it.kind hk2 it.text s h2 hs hb).mono ?_
    rintro e w' ⟨rfl,h⟩;exact⟨none,0,0,[],rfl,fun _=>⟨rfl,rfl⟩,h⟩
   ·simp only[if_neg hb]
    refine(Je5 hS it.kind hk2 it.text s (by omega)).mono ?_
    rintro e w' ⟨rfl,h⟩;exact⟨none,0,0,[],rfl,fun _=>⟨rfl,rfl⟩,h⟩
  ·simp only[J1v,if_pos h1]
   exact Jqo hS h1 hat (by omega) s
theorem Ctx.alloc {ws:List ByteArray} (h:Ctx w0 w l r sb S g off ws) (o:Obj):Ctx w0 (w.alloc o) l ((w.heap.size,o)::r) sb S g off ws where
 st:=(h.st.alloc o).permR (J5 fun f=>by simp only[SC];omega)
 gl:=h.gl
 is:=h.is
 tight:=h.tight
 load:=h.load
 args:=h.args.more (x:=[(w.heap.size,o)])
theorem Ctx.drew {ws:List ByteArray} (h:Ctx w0 w l r sb S g off ws):Ctx w0 w.drew l r sb S g off ws:=⟨h.st.drew,h.gl,h.is,h.tight,h.load,h.args⟩
theorem Ctx.fit {ws:List ByteArray} (h:Ctx w0 w l r sb S g off ws):Fit S:=by obtain⟨m,_,_,hf⟩:=h.is;exact hf
theorem Ctx.ev {ws:List ByteArray} (h:Ctx w0 w l r sb S g off ws):S.ev.length<=1000000000000:=by have:=h.load;unfold St.load at this;omega
abbrev J0h (a:Lf):Obj:=.cells #[.int .i64 a.kind,.string a.text,.int .i64 a.n,.float .f64 0,.bool false,.slice none 0 0] 34 (0,0)
structure Jy0 (w:World) (b:Nat) (a:Lf):Prop where
 c0:w.cell? ⟨b,0,none⟩=some (.int .i64 a.kind)
 c1:w.cell? ⟨b,1,none⟩=some (.string a.text)
 c2:w.cell? ⟨b,2,none⟩=some (.int .i64 a.n)
 c3:w.cell? ⟨b,3,none⟩=some (.float .f64 0)
 c4:w.cell? ⟨b,4,none⟩=some (.bool false)
 c5:w.cell? ⟨b,5,none⟩=some (.slice none 0 0)
theorem Jmq {b:Nat} {a:Lf} (h:w.heap[b]? =some (J0h a)):Jy0 w b a:=⟨J2 h 0,J2 h 1,J2 h 2,J2 h 3,J2 h 4,J2 h 5⟩
theorem J5f (S:St) (k:ByteArray) (it:Itm):S.putE k it=0\/(¬S.putE k it=0/\K2 (S.putE k it)):=by
 unfold St.putE;split
 ·exact .inr ⟨by decide,by unfold K2;omega⟩
 ·split
  ·exact .inr ⟨by decide,by unfold K2;omega⟩
  ·exact .inl rfl
theorem Jp.of {r2 m:Hp} {e:Ending} {w':World} (h:Jp w0 r sb S v e w') (p:∀f:Nat×Obj->Nat,(r.map f).sum=(r2.map f).sum+(m.map f).sum):Jp w0 r2 sb S v e w':=by
 obtain⟨rfl,l',h1,h2⟩:=h
 exact⟨rfl,l',h1,h2.pick (l2:=l'++r2) (m:=m) (J5 fun f=>by rw[List.map_append,List.sum_append,List.map_append,List.sum_append,List.map_append,List.sum_append,p f];omega)⟩
theorem Jg0 {ws:List ByteArray} (h:Ctx w0 w l r sb S g off (k::ws)) (now:Int) (cap:Nat) (s:ByteArray) (a:Lf):
 Calls Tryz.prog 90 #[Kv sb now g off (k::ws).length cap,.string s,Ja a] w (Jp w0 r sb (J7c S now k s a).1 (Ja (J7c S now k s a).2)):=by
 have H:=((h.alloc (Jy sb now g off (k::ws).length cap)).alloc (J0h a)).alloc J4;have hn:(0:Int)<(((k::ws).length:Nat):Int):=by simp only[List.length_cons];omega
 generalize (k::ws).length=n at H hn⊢;have hn2:0<n:=by omega
 generalize hT:J7c S now k s a=T;replace hT:=hid hT;clear h;replace H:=hid H;go_enter Tryz.func90,Tryz.ntmps90;unfold Kv Ja J7;go_wp2_with fail;generalize hw1:((w.alloc _).alloc _).alloc _=w1;replace H:Ctx w0 w1 _ _ _ _ _ _ _:=hw1▸H.out;clear hw1;simp only[World.size_alloc] at H;generalize w.heap.size=b at H⊢;obtain⟨R,hR⟩:∃R:Hp,R=(b+1+1,J4)::(b+1,J0h a)::(b,Jy sb now g off n cap)::r:=⟨_,rfl⟩
 rw[<-hR] at H
 have hjob:Job w0 R b sb now g off n cap (k::ws):=by
  rw[hR] at H⊢;exact Ctx.job (A:=[(b+1+1,J4),(b+1,J0h a)]) H
 replace hR:=hid hR;have j0:∀p:InW w0 [] (l++R),p.w.cell? ⟨b,0,none⟩=some (ptr sb):=fun p=>(hjob.at_ p.w ⟨l,p.h⟩).c0
 have j1:∀p:InW w0 [] (l++R),p.w.cell? ⟨b,1,none⟩=some (.int .i64 now):=fun p=>(hjob.at_ p.w ⟨l,p.h⟩).c1
 have j2:∀p:InW w0 [] (l++R),p.w.cell? ⟨b,2,none⟩=some (.slice (some ⟨g,off,none⟩) n cap):=fun p=>(hjob.at_ p.w ⟨l,p.h⟩).c2
 have ja:∀p:InW w0 [] (l++R),p.w.cell? ⟨g,off,none⟩=some (.string k):=fun p=>hjob.arg p.w ⟨l,p.h⟩ 0 k rfl
 have hst:=hid H.st;replace H:=hid H;clear hjob;refine Jq 10 hst.out (by kernel_rfl) (by kernel_rfl) (fun hne=>?_)
 simp only[List.take_succ_cons,List.take_zero,List.drop_succ_cons,List.drop_zero];repeat (go_big_quiet_step ((go_at_call 88;refine Calls.inw (Jbv (InW.h _) s))))
 refine J04 fun w2 S2=>?_
 clear j0 j1 j2 ja hne hst;have hput:=hid (J8e (l:=l) (il:=[]) (r:=R) (it:=Ji s) S2 H.out.gl H.out.is H.out.tight (by have:=H.out.ev;omega) k (H.out.args.small k (by simp)) (J5n.text s) false now)
 have hknown:=J5f S k (Ji s);have hTT:Hid (T=(S.putG k (Ji s) false now,if S.putE k (Ji s)=0 then a else Kt (S.putE k (Ji s)))):=hid hT.out.symm
 clear S2 hT H;generalize S.putE k (Ji s)=pe at hput hknown hTT;generalize S.putG k (Ji s) false now=pg at hput hTT;simp only[J6,Ji,List.nil_append] at hput;unfold J6;go_wp2_with fail;refine hput.out.mono ?_;rintro e w3 ⟨rfl,l3,hX3,S3⟩;rw[hR.out] at S3
 have S4:=S3.permR (l2:=(b+1+1,J4)::(b+1,J0h a)::(l3++r++[(b,Jy sb now g off n cap)])) (J5 fun f=>by
  simp only[SC];omega)
 have hend:∀(w':World) (a':Lf),J3 w0 [] w' ((b+1+1,J4)::(b+1,J0h a)::(l3++r++[(b,Jy sb now g off n cap)]))->J3 w0 [] _ (l3++r):=fun w' a' h=>((h.setLf a').less (List.sublist_cons_self _ _)).less (List.sublist_append_left _ _)
 clear hput S3 hR;rcases hknown with rfl|⟨hne,hkn⟩
 ·rw[if_pos rfl] at hTT
  have S6:=hid (hend w3 a S4);obtain⟨⟨c0,hc0⟩,⟨c1,hc1⟩,⟨c2,hc2⟩,⟨c3,hc3⟩,⟨c4,hc4⟩,⟨c5,hc5⟩,fz,hlt⟩:=J0d S4.own
  obtain⟨a0,a1,a2,a3,a4,a5⟩:=Jmq S4.own.tail.head
  clear S4 hend;go_wp2_with fail;refine bodyPost_ret (v:=Ja a) (by simp[results,Tryz.results90,go_sem,J7,Ja, *]<;>rfl) rfl ?_
  rw[hTT.out];exact⟨rfl,l3,hX3,S6.out⟩
 ·rw[if_neg hne] at hTT
  have herr:=hid (J23 S4 pe hkn);have hpb:(pe==0)=false:=by simpa using hne
  clear S4 hkn hne;unfold Kt at hTT;generalize Jx pe=te at herr hTT;go_wp2_with fail;refine herr.out.mono ?_;rintro e1 w4 ⟨rfl,S5⟩;have S6:=hid (hend w4 ⟨2,te,0⟩ S5);obtain⟨⟨c0,hc0⟩,⟨c1,hc1⟩,⟨c2,hc2⟩,⟨c3,hc3⟩,⟨c4,hc4⟩,⟨c5,hc5⟩,fz,hlt⟩:=J0d S5.own
  clear herr S5 hend;unfold J7;go_wp2_with fail;refine bodyPost_ret (v:=Ja ⟨2,te,0⟩) (by simp[results,Tryz.results90,go_sem,J7,Ja, *]<;>rfl) rfl ?_
  rw[hTT.out];exact⟨rfl,l3,hX3,S6.out⟩
theorem Je7 {n cap:Nat} {now:Int} (hS:J3 w0 [] w (l++r)) (hX:Jh l sb S) (kd:Int) (tx:ByteArray) (v:Value) (c:Int) (hc:¬c=0) (hk:K2 c) (a:Lf):
 Calls Tryz.prog 93 #[Kv sb now g off n cap,.agg #[.int .i64 kd,.string tx,v],.int .i64 c,Ja a] w (Jp w0 r sb S (Ja (Kt c))):=by
 have H:=(((hS.alloc (Jy sb now g off n cap)).alloc (Jb kd tx v)).alloc (J0h a)).alloc J4;simp only[World.size_alloc] at H;have hcb:(c==0)=false:=by simpa using hc
 have herr:=hid (J23 H c hk);unfold Kt;generalize Jx c=te at herr⊢;clear H hS hk;go_enter Tryz.func93,Tryz.ntmps93;unfold Kv Ja J7;go_wp2_with fail;refine herr.out.mono ?_;rintro e1 w4 ⟨rfl,S5⟩;generalize w.heap.size=b at S5⊢;have S6:=hid ((S5.setLf ⟨2,te,0⟩).less ((List.sublist_cons_self _ _).trans ((List.sublist_cons_self _ _).trans (List.sublist_cons_self _ _))));obtain⟨⟨c0,hc0⟩,⟨c1,hc1⟩,⟨c2,hc2⟩,⟨c3,hc3⟩,⟨c4,hc4⟩,⟨c5,hc5⟩,fz,hlt⟩:=J0d S5.own
 clear herr S5;unfold J7;go_wp2_with fail;refine bodyPost_ret (v:=Ja ⟨2,te,0⟩) (by simp[results,Tryz.results93,go_sem,J7,Ja, *]<;>rfl) rfl ?_
 exact⟨rfl,l,hX,S6.out⟩
theorem Je8 {ws:List ByteArray} (h:Ctx w0 w l r sb S g off (k::ws)) (now:Int) (cap:Nat) (s:ByteArray) (a:Lf):
 Calls Tryz.prog 93 #[Kv sb now g off (k::ws).length cap,.agg #[.int .i64 1,.string s,.slice none 0 0],.int .i64 0,Ja a] w (Jp w0 r sb (J6q S now k (Ji s) 0 a).1 (Ja (J6q S now k (Ji s) 0 a).2)):=by
 have H:=(((h.alloc (Jy sb now g off (k::ws).length cap)).alloc (Jb 1 s (.slice none 0 0))).alloc (J0h a)).alloc J4;have hn:(0:Int)<(((k::ws).length:Nat):Int):=by simp only[List.length_cons];omega
 generalize (k::ws).length=n at H hn⊢;have hn2:0<n:=by omega
 generalize hT:J6q S now k (Ji s) 0 a=T;replace hT:=hid hT;clear h;replace H:=hid H;go_enter Tryz.func93,Tryz.ntmps93;unfold Kv Ja J7;go_wp2_with fail;generalize hw1:(((w.alloc _).alloc _).alloc _).alloc _=w1;replace H:Ctx w0 w1 _ _ _ _ _ _ _:=hw1▸H.out;clear hw1;simp only[World.size_alloc] at H;generalize w.heap.size=b at H⊢;obtain⟨R,hR⟩:∃R:Hp,R=(b+1+1+1,J4)::(b+1+1,J0h a)::(b+1,Jb 1 s (.slice none 0 0))::(b,Jy sb now g off n cap)::r:=⟨_,rfl⟩
 rw[<-hR] at H
 have hjob:Job w0 R b sb now g off n cap (k::ws):=by
  rw[hR] at H⊢;exact Ctx.job (A:=[(b+1+1+1,J4),(b+1+1,J0h a),(b+1,Jb 1 s (.slice none 0 0))]) H
 have hmem:(b+1,Jb 1 s (.slice none 0 0))∈R:=by rw[hR];simp
 have J3c:∀p:InW w0 [] (l++R),Jde p.w (b+1) (.int .i64 1) (.string s) (.slice none 0 0):=fun p=>Jn (p.h.own.right.at_ _ hmem)
 replace hR:=hid hR;have j0:∀p:InW w0 [] (l++R),p.w.cell? ⟨b,0,none⟩=some (ptr sb):=fun p=>(hjob.at_ p.w ⟨l,p.h⟩).c0
 have j1:∀p:InW w0 [] (l++R),p.w.cell? ⟨b,1,none⟩=some (.int .i64 now):=fun p=>(hjob.at_ p.w ⟨l,p.h⟩).c1
 have j2:∀p:InW w0 [] (l++R),p.w.cell? ⟨b,2,none⟩=some (.slice (some ⟨g,off,none⟩) n cap):=fun p=>(hjob.at_ p.w ⟨l,p.h⟩).c2
 have ja:∀p:InW w0 [] (l++R),p.w.cell? ⟨g,off,none⟩=some (.string k):=fun p=>hjob.arg p.w ⟨l,p.h⟩ 0 k rfl
 have i0:∀p:InW w0 [] (l++R),p.w.cell? ⟨b+1,0,none⟩=some (.int .i64 1):=fun p=>(J3c p).c0
 have i1:∀p:InW w0 [] (l++R),p.w.cell? ⟨b+1,1,none⟩=some (.string s):=fun p=>(J3c p).c1
 have i2:∀p:InW w0 [] (l++R),p.w.cell? ⟨b+1,2,none⟩=some (.slice none 0 0):=fun p=>(J3c p).c2
 have hst:=hid H.st;replace H:=hid H;clear hjob J3c hmem;refine Jq 9 hst.out (by kernel_rfl) (by kernel_rfl) (fun hne=>?_)
 simp only[List.take_succ_cons,List.take_zero,List.drop_succ_cons,List.drop_zero];repeat (go_big_quiet_step (fail))
 refine J04 fun w2 S2=>?_
 clear j0 j1 j2 ja i0 i1 i2 hne hst;have hput:=hid (J8e (l:=l) (il:=[]) (r:=R) (it:=Ji s) S2 H.out.gl H.out.is H.out.tight (by have:=H.out.ev;omega) k (H.out.args.small k (by simp)) (J5n.text s) true now)
 have hknown:=J5f S k (Ji s);have hTT:Hid (T=(S.putG k (Ji s) true now,if S.putE k (Ji s)=0 then a else Kt (S.putE k (Ji s)))):=hid hT.out.symm
 clear S2 hT H;generalize S.putE k (Ji s)=pe at hput hknown hTT;generalize S.putG k (Ji s) true now=pg at hput hTT;simp only[J6,Ji,List.nil_append] at hput;go_wp2_with fail;refine hput.out.mono ?_;rintro e w3 ⟨rfl,l3,hX3,S3⟩;rw[hR.out] at S3
 have S4:=S3.permR (l2:=(b+1+1+1,J4)::(b+1+1,J0h a)::(l3++r++[(b+1,Jb 1 s (.slice none 0 0)),(b,Jy sb now g off n cap)])) (J5 fun f=>by
  simp only[SC];omega)
 have hend:∀(w':World) (a':Lf),J3 w0 [] w' ((b+1+1+1,J4)::(b+1+1,J0h a)::(l3++r++[(b+1,Jb 1 s (.slice none 0 0)),(b,Jy sb now g off n cap)]))->J3 w0 [] _ (l3++r):=fun w' a' h=>((h.setLf a').less (List.sublist_cons_self _ _)).less (List.sublist_append_left _ _)
 clear hput S3 hR;rcases hknown with rfl|⟨hne,hkn⟩
 ·rw[if_pos rfl] at hTT
  have S6:=hid (hend w3 a S4);obtain⟨⟨c0,hc0⟩,⟨c1,hc1⟩,⟨c2,hc2⟩,⟨c3,hc3⟩,⟨c4,hc4⟩,⟨c5,hc5⟩,fz,hlt⟩:=J0d S4.own
  obtain⟨a0,a1,a2,a3,a4,a5⟩:=Jmq S4.own.tail.head
  clear S4 hend;go_wp2_with fail;refine bodyPost_ret (v:=Ja a) (by simp[results,Tryz.results93,go_sem,J7,Ja, *]<;>rfl) rfl ?_
  rw[hTT.out];exact⟨rfl,l3,hX3,S6.out⟩
 ·rw[if_neg hne] at hTT
  have herr:=hid (J23 S4 pe hkn);have hpb:(pe==0)=false:=by simpa using hne
  clear S4 hkn hne;unfold Kt at hTT;generalize Jx pe=te at herr hTT;go_wp2_with fail;refine herr.out.mono ?_;rintro e1 w4 ⟨rfl,S5⟩;have S6:=hid (hend w4 ⟨2,te,0⟩ S5);obtain⟨⟨c0,hc0⟩,⟨c1,hc1⟩,⟨c2,hc2⟩,⟨c3,hc3⟩,⟨c4,hc4⟩,⟨c5,hc5⟩,fz,hlt⟩:=J0d S5.own
  clear herr S5 hend;unfold J7;go_wp2_with fail;refine bodyPost_ret (v:=Ja ⟨2,te,0⟩) (by simp[results,Tryz.results93,go_sem,J7,Ja, *]<;>rfl) rfl ?_
  rw[hTT.out];exact⟨rfl,l3,hX3,S6.out⟩
theorem Ctx.right {R:Hp} {ws:List ByteArray} (h:Ctx w0 w l R sb S g off ws) {now:Int} (it:Itm) (hl:S.look k now=some it):J0e it:=
 ((h.fit.due k now).key _ (J0v hl)).2
theorem Ctx.got {R:Hp} {ws:List ByteArray} (h:Ctx w0 w l R sb S g off ws) (k:ByteArray) (now:Int) {w':World} {l2 x:Hp} (hX:Jh l2 sb (S.get k now)) (hS:J3 w0 [] w' (l2++(x++R))):Ctx w0 w' l2 (x++R) sb (S.get k now) g off ws where
 st:=hS
 gl:=h.gl
 is:=hX
 tight:=Kx.get h.fit h.tight k now
 load:=by rw[St.load_get h.fit];exact h.load
 args:=h.args.more
theorem J9l (o:Option Itm) (n:Int) (h:(J2p o n).2.2=0):∃s,(J2p o n).1=Ji s:=by
 unfold J2p at h⊢;cases o with
 |none=>exact⟨_,rfl⟩
 |some it=>
  by_cases hk:it.kind=2
  ·simp[hk] at h
  ·simp only[hk,if_false] at h⊢
   cases hw:J2f it.text with
   |none=>rw[hw] at h;simp at h
   |some m=>
    rw[hw] at h;simp only at h⊢
    cases ha:J3d m n with
    |none=>rw[ha] at h;simp at h
    |some j=>exact⟨_,rfl⟩
theorem Jc0 (o:Option Itm) (n:Int):(J2p o n).2.2=0\/(¬(J2p o n).2.2=0/\K2 (J2p o n).2.2):=by
 unfold J2p;cases o with
 |none=>exact .inl rfl
 |some it=>
  by_cases hk:it.kind=2
  ·right;simp[hk,K2]
  ·simp only[hk,if_false]
   cases hw:J2f it.text with
   |none=>right;simp[K2]
   |some m=>
    simp only
    cases ha:J3d m n with
    |none=>right;simp[K2]
    |some j=>left;rfl
theorem Jh4 {ws:List ByteArray} (h:Ctx w0 w l r sb S g off (k::ws)) (now:Int) (cap:Nat) (m:Int) (hm: -9223372036854775808<=m/\m<=9223372036854775807):
 Calls Tryz.prog 45 #[Kv sb now g off (k::ws).length cap,.int .i64 m] w (Jp w0 r sb (Jcy S now k m).1 (Ja (Jcy S now k m).2)):=by
 have H:=(h.alloc (Jy sb now g off (k::ws).length cap)).alloc J4;have hn:(0:Int)<(((k::ws).length:Nat):Int):=by simp only[List.length_cons];omega
 generalize hlen:(k::ws).length=n at H hn⊢;replace hlen:=hid hlen;have hn2:0<n:=by omega
 have hn3:(0:Int)<(n:Int):=by omega
 have hn4:0<n:=by omega
 generalize hT:Jcy S now k m=T;replace hT:=hid hT;clear h;replace H:=hid H;go_enter Tryz.func45,Tryz.ntmps45;unfold Kv;go_wp2_with fail;generalize hw1:(w.alloc _).alloc _=w1;replace H:Ctx w0 w1 _ _ _ _ _ _ _:=hw1▸H.out;clear hw1;simp only[World.size_alloc] at H;generalize w.heap.size=b at H⊢;have hjob:=hid (Ctx.job (A:=[(b+1,J4)]) H);obtain⟨R,hR⟩:∃R,R=[(b+1,J4)]++(b,Jy sb now g off n cap)::r:=⟨_,rfl⟩
 rw[<-hR] at hjob;replace H:Ctx w0 w1 l R sb S g off (k::ws):=hR▸H;have hget:∀(w':World) (x:Hp),Hid (J3 w0 [] w' (x++(l++R))->_):=fun w' x=>hid fun hw=>H.get k (by simp) now x hw
 have hs1:Hid (J3 w0 [] w1.drew ([]++(l++R))):=hid H.st.drew;have hs2:Hid (∀o:Obj,J3 w0 [] (w1.alloc o).drew ([(w1.heap.size,o)]++(l++R))):=hid fun o=>(H.st.alloc o).drew
 have hx1:Hid (InX w0 R w1.drew):=hid ⟨l,H.st.drew⟩;have hx0:Hid (InX w0 R w1):=hid ⟨l,H.st⟩;have hright:Hid (∀it,(S.look k now)=some it->J0e it):=hid H.right;have hgl:=hid H.gl;have hgot:Hid (∀(w':World) (l2 x:Hp),Jh l2 sb (S.get k now)->J3 w0 [] w' (l2++(x++R))->Ctx w0 w' l2 (x++R) sb (S.get k now) g off _):=hid fun w' l2 x h1 h2=>H.got k now h1 h2
 replace hR:=hid hR;clear H;obtain⟨kd,hkd⟩:∃kd,kd=((S.look k now).getD Jc).kind:=⟨_,rfl⟩
 obtain⟨tx,htx⟩:∃tx,tx=((S.look k now).getD Jc).text:=⟨_,rfl⟩
 obtain⟨is,his⟩:∃is,is=(S.look k now).isSome:=⟨_,rfl⟩
 rw[<-hkd,<-htx,<-his] at hget;replace hkd:=hid hkd;replace htx:=hid htx;replace his:=hid his;go_cut [5,6] (fun s3 s4 wc=>∃nb va vn vc vl l2,s3= .pointer (some ⟨nb,0,none⟩)/\s4= .bool is/\Hid (Jj (.slice va vn vc) ((S.look k now).getD Jc).fs vl)/\Hid (Jh l2 sb (S.get k now))/\Hid (J3 w0 [] wc ((nb,Jb kd tx (.slice va vn vc))::(l2++(vl++R)))))
 case first=>
  go_region_held3 (fun w'=>w'.cell? ⟨b,0,none⟩=some (ptr sb)/\w'.cell? ⟨b,1,none⟩=some (.int .i64 now)/\w'.cell? ⟨b,2,none⟩=some (.slice (some ⟨g,off,none⟩) n cap)/\w'.cell? ⟨g,off,none⟩=some (.string k)/\Hid (InX w0 R w'))
   (first|(with_reducible exact hjob.out.one hx1)|(with_reducible exact hjob.out.one (by assumption))|(with_reducible exact hjob.out.one (InX.alloc (by assumption) _))|(with_reducible exact hjob.out.one (InX.drew (InX.alloc (by assumption) _)))|(with_reducible exact hjob.out.one (hset.out _ _ _))|(fail "keep"))
   (first|(go_at_call 39;refine((hget _ _).out hs1.out).mono ?_;rintro e w2 ⟨va,vn,vc,vl,l2,rfl,hat,hX,S2,hx2⟩)|(go_at_call 39;refine((hget _ _).out (hs2.out _)).mono ?_;rintro e w2 ⟨va,vn,vc,vl,l2,rfl,hat,hX,S2,hx2⟩;obtain⟨z0,z1,z2,zf⟩:=Jn S2.out.own.head;have zl:=Jf S2.out.own.head;have hset:Hid (∀v0 v1 v2,_):=hid fun v0 v1 v2=>InX.set3 (A:=l2++vl) (by rw[List.append_assoc];exact S2.out) v0 v1 v2))
  ·go_wp2_with fail
   go_meet
   exact⟨_,va,vn,vc,vl,l2,rfl,rfl,hat,hX,hid (S2.out.alloc _)⟩
  ·go_wp2_with fail
   go_meet
   exact⟨_,va,vn,vc,vl,l2,rfl,rfl,hat,hX,hid (((S2.out.set 0 _).set 1 _).set 2 _)⟩
 case rest=>
  obtain⟨nb,va,vn,vc,vl,l2,rfl,rfl,hat,hX,S3⟩:=hcut
  clear hget hs1 hs2 hx1 hx0;obtain⟨z0,z1,z2,zf⟩:=Jn S3.out.own.head
  have hadd:=Jjs (S3.out.permR (l2:=vl++((nb,Jb kd tx (.slice va vn vc))::(l2++R))) (J5 fun f=>by simp only[SC];omega)) hgl.out hright.out hat.out m hm
  unfold J6 at hadd;rw[<-hkd.out,<-htx.out] at hadd;have htext:=hid (J9l (S.look k now) m);have hknown:=hid (Jc0 (S.look k now) m);have hTT:Hid (T=J6q (S.get k now) now k (J2p (S.look k now) m).1 (J2p (S.look k now) m).2.2 (Jm (J2p (S.look k now) m).2.1)):=hid hT.out.symm;replace hadd:=hid hadd;clear hT hat S3 hright hkd htx his;generalize J2p (S.look k now) m=q at hadd htext hknown hTT;obtain⟨nx,sm,code⟩:=q
  simp only at hadd htext hknown hTT
  go_wp2_with fail;refine hadd.out.mono ?_;rintro e w3 ⟨ua,un,uc,il,rfl,hnil,S4⟩;clear hadd z0 z1 z2 zf;replace hnil:=hid hnil;replace S4:=hid S4;go_wp2_with fail;generalize hw3:w3.alloc _=w4;have S5:J3 w0 [] w4 _:=hw3▸S4.out.alloc (Jb nx.kind nx.text (.slice ua un uc));clear hw3 S4;generalize w3.heap.size=nb2 at S5⊢;obtain⟨X,hXX⟩:∃X:Hp,X=(nb2,Jb nx.kind nx.text (.slice ua un uc))::(il++(vl++[(nb,Jb kd tx (.slice va vn vc))])):=⟨_,rfl⟩
  have S6:=S5.permR (l2:=l2++(X++R)) (J5 fun f=>by
   rw[hXX];simp only[SC];omega)
  have hmem:(nb2,Jb nx.kind nx.text (.slice ua un uc))∈X:=by rw[hXX];simp
  have J3c:∀p:InW w0 [] (l2++(X++R)),Jde p.w nb2 (.int .i64 nx.kind) (.string nx.text) (.slice ua un uc):=fun p=>Jn (p.h.own.right.left.at_ _ hmem)
  have i0:∀p:InW w0 [] (l2++(X++R)),p.w.cell? ⟨nb2,0,none⟩=some (.int .i64 nx.kind):=fun p=>(J3c p).c0
  have i1:∀p:InW w0 [] (l2++(X++R)),p.w.cell? ⟨nb2,1,none⟩=some (.string nx.text):=fun p=>(J3c p).c1
  have i2:∀p:InW w0 [] (l2++(X++R)),p.w.cell? ⟨nb2,2,none⟩=some (.slice ua un uc):=fun p=>(J3c p).c2
  have hin:∀p:InW w0 [] (l2++(X++R)),InX w0 R p.w:=fun p=>⟨l2++X,by rw[List.append_assoc];exact p.h⟩
  have j0:∀p:InW w0 [] (l2++(X++R)),p.w.cell? ⟨b,0,none⟩=some (ptr sb):=fun p=>(hjob.out.at_ p.w (hin p)).c0
  have j1:∀p:InW w0 [] (l2++(X++R)),p.w.cell? ⟨b,1,none⟩=some (.int .i64 now):=fun p=>(hjob.out.at_ p.w (hin p)).c1
  have j2:∀p:InW w0 [] (l2++(X++R)),p.w.cell? ⟨b,2,none⟩=some (.slice (some ⟨g,off,none⟩) n cap):=fun p=>(hjob.out.at_ p.w (hin p)).c2
  replace S6:=hid S6;clear J3c hin hmem S5;replace hXX:=hid hXX;refine Jq 5 S6.out (by kernel_rfl) (by kernel_rfl) (fun hne=>?_)
  simp only[List.take_succ_cons,List.take_zero,List.drop_succ_cons,List.drop_zero];repeat (go_big_quiet_step ((go_at_call 59;refine Calls.inw (J15 (InW.h _) _))))
  refine J04 fun w5 S7=>?_
  clear i0 i1 i2 j0 j1 j2 hne S6
  have hkeep:Hid (Calls Tryz.prog 93 #[Kv sb now g off n cap,.agg #[.int .i64 nx.kind,.string nx.text,.slice ua un uc],.int .i64 code,Ja (Jm sm)] w5 (Jp w0 (X++R) sb T.1 (Ja T.2))):=hid (by
   rw[hTT.out];rcases hknown.out with hc|⟨hne,hkn⟩
   ·obtain⟨s,hs⟩:=htext.out hc
    obtain⟨_,hv⟩:=hnil.out hc
    have hk:=Je8 (hgot.out w5 l2 X hX.out S7) now cap s (Jm sm);rw[hlen.out] at hk;rw[hv,hs,hc];exact hk
   ·simp only[J6q,if_neg hne]
    exact Je7 S7 hX.out nx.kind nx.text _ code hne hkn (Jm sm))
  unfold Kv Ja Jm J7 at hkeep;simp only at hkeep
  unfold J7;clear S7 hTT hknown htext hnil hgot hX hjob;go_wp2_with fail;refine hkeep.out.mono ?_;rintro e w6 ⟨rfl,l5,hX5,S8⟩;rw[hR.out] at S8
  have S9:=S8.permR (l2:=(b+1,J4)::(l5++r++(X++[(b,Jy sb now g off n cap)]))) (J5 fun f=>by
   simp only[SC];omega)
  have S10:=hid ((S9.setLf T.2).less (List.sublist_append_left _ _));obtain⟨⟨c0,hc0⟩,⟨c1,hc1⟩,⟨c2,hc2⟩,⟨c3,hc3⟩,⟨c4,hc4⟩,⟨c5,hc5⟩,fz,hlt⟩:=J0d S9.own
  clear hkeep S8 S9 hR hXX;go_wp2_with fail;refine bodyPost_ret (v:=Ja T.2) (by simp[results,Tryz.results45,go_sem,J7,Ja, *]<;>rfl) rfl ?_
  exact⟨rfl,l5,hX5,S10.out⟩
end Go.Proofs.YtncbcaabanoeoaaGreatDoor
