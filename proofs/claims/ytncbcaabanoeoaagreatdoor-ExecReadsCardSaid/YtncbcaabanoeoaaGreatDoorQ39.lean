/-
exec.Run, a command at a time: its words lie in a new block.
-/
import Derived.Deep.CutBlock
import Derived.Deep.DeepCutAuto
import Derived.Deep.RegionHeld3
import Derived.IntWalk
import Derived.Test.YtncbcaabanoeoaaGreatDoorQ14
import Derived.Test.YtncbcaabanoeoaaGreatDoorQ22
import Derived.Test.YtncbcaabanoeoaaGreatDoorQ24
import Derived.Test.YtncbcaabanoeoaaGreatDoorQ34
import Derived.Test.YtncbcaabanoeoaaGreatDoorQ36
import Derived.Test.YtncbcaabanoeoaaGreatDoorQ38
set_option linter.unusedVariables false
set_option linter.unusedSimpArgs false
set_option maxRecDepth 100000
set_option maxHeartbeats 8000000
namespace Go.Proofs.YtncbcaabanoeoaaGreatDoor
open Go Go.RowKit
variable {w0 w:World}{R r l sl:Hp}{sb:Nat}{e:Ending}{v:Value}{fs:Fs}{name s:ByteArray}
def Jap:Sp:=⟨⟨#[69,88,80,73,82,69]⟩,2,3,3,1,1,1⟩
def Jgk:Sp:=⟨⟨#[80,69,88,80,73,82,69]⟩,2,3,3,1,1,1⟩
theorem J2w.is {p:St×Lf} {w':World} (h:Jp w0 R sb p.1 (Ja p.2) e w'):J2w w0 R sb (·=J10 p) e w':=⟨_,rfl,Js8.leaf h⟩
section
variable {w0 w w':World} {l r:Hp} {sb:Nat} {S:St} {c k m:ByteArray} {ws:List ByteArray} {sp:Sp} {now:Int} {P:Res->Prop} {e:Ending}
theorem J5z.letGo {p:Nat×Obj} {kd nn:Int} {tx:ByteArray} {xs:List Lf} (h:J5z w0 (p::r) sb S kd tx nn xs e w'):J5z w0 r sb S kd tx nn xs e w':=by
 obtain⟨a,c,ev,xl,el,l',rfl,h1,h2,h3,h4⟩:=h
 exact⟨a,c,ev,xl,el,l',rfl,h1,h2,h3,h4.pick (m:=[p]) (J5 fun f=>by simp only[SC];omega)⟩
theorem J6v.at {o:Res} {p:Nat×Obj} (h:J6v w0 (p::r) sb (·=o) e w'):J5z w0 r sb o.st o.kd o.tx o.nn o.xs e w':=by
 obtain⟨_,rfl,q⟩:=h
 exact q.letGo
theorem KC.of (hS:J3 w0 [] w (l++r)) (hG:J17 w0) (hX:Jh l sb S) (hT:Kx S/\S.load<=1000000000000) (hs:∀s∈(c::ws),s.size<=1099511627776) (hc:Ku (c::ws)=(sp,ByteArray.empty)) (hk:J3h (sp,ByteArray.empty)=true) (hnow:0<=now/\now<=4611686018427387904) (hf:(c::ws).length<=64):
 KC w0 (w.alloc (J33 (c::ws))) l ((w.heap.size,J33 (c::ws))::r) sb S w.heap.size 0 c ws sp now (c::ws).length:=
 ⟨Ctx.call hS hG hX hT.1 hT.2 (c::ws) hs (by omega),hc,hk,hnow,Nat.le_refl _,by omega,hf⟩
theorem Jvv (hS:J3 w0 [] w (l++r)) (hG:J17 w0) (hX:Jh l sb S) (hT:Kx S/\S.load<=1000000000000) (hs:∀s∈[c,k,m],s.size<=1099511627776) (hc:Ku [c,k,m]=(Jp6,ByteArray.empty)) (hnow:0<=now/\now<=4611686018427387904):
 Calls Tryz.prog 8 #[ptr sb,.int .i64 now,.slice (some ⟨w.heap.size,0,none⟩) 3 3] (w.alloc (J33 [c,k,m])) (J5z w0 r sb (Jaq S now k m []).1 (Jaq S now k m []).2.kind (Jaq S now k m []).2.text (Jaq S now k m []).2.n []):=
 ((KC.of hS hG hX hT hs hc (by kernel_rfl) hnow (by simp)).text (P:=(·=J10 (Jaq S now k m []))) (.inl ⟨_,fun j=>#[j],List.mem_of_getElem? (i:=0) (by kernel_rfl),fun w' R C=>(Jp5 C now hnow 2 (by simp) (by decide)).mono fun _ _ hp=>.is hp⟩)).mono fun _ _ hp=>hp.at
theorem Jlr (hS:J3 w0 [] w (l++r)) (hG:J17 w0) (hX:Jh l sb S) (hT:Kx S/\S.load<=1000000000000) (hs:∀s∈[c,k,m],s.size<=1099511627776) (hc:Ku [c,k,m]=(Jap,ByteArray.empty)) (hnow:0<=now/\now<=4611686018427387904):
 Calls Tryz.prog 8 #[ptr sb,.int .i64 now,.slice (some ⟨w.heap.size,0,none⟩) 3 3] (w.alloc (J33 [c,k,m])) (J5z w0 r sb (J0f S now k m 1000).1 (J0f S now k m 1000).2.kind (J0f S now k m 1000).2.text (J0f S now k m 1000).2.n []):=
 ((KC.of hS hG hX hT hs hc (by kernel_rfl) hnow (by simp)).own (P:=(·=J10 (J0f S now k m 1000))) (by kernel_rfl) (by kernel_rfl) fun w' R q C=>(Jej C now hnow _).mono fun _ _ hp=>.is hp).mono fun _ _ hp=>hp.at
end
def Jo8 (w0:World) (r il:Hp) (e:Ending) (w':World):Prop:=
 ∃nx tx code,((code=0/\nx=Ji tx)\/(¬code=0/\K2 code))/\J6a w0 r il nx [.string tx,.int .i64 code] code e w'
theorem Jmj {il:Hp} {it:Itm} (hS:J3 w0 [] w (il++r)) (hk:it.kind=2) (hat:Jj v it.fs il) (hB:it.fs.length<=1048576) (fb:Nat):
 Calls Tryz.prog 97 #[J6 it.kind it.text v,.float .f64 fb] w (Jo8 w0 r il):=by
 obtain⟨kd,tx,fs⟩:=it
 simp only at hk hat hB⊢
 subst hk;obtain⟨a,c,rfl⟩:=hat.shape
 have S1:=(hS.alloc (Jb 2 tx (.slice a fs.length c))).alloc (Jb 0 ByteArray.empty (.slice none 0 0));rw[World.size_alloc] at S1;have S1':=S1.permR (l2:=il++((w.heap.size+1,Jb 0 ByteArray.empty (.slice none 0 0))::(w.heap.size,Jb 2 tx (.slice a fs.length c))::r)) (J5 fun f=>by simp only[SC];omega)
 have hcopy:=hid (J39 (kind:=2) (text:=tx) S1' hat hB);clear hS S1 S1' hat;go_enter Tryz.func97,Tryz.ntmps97;unfold J6;unfold J6 at hcopy;go_wp2_with fail;refine hcopy.out.mono ?_;rintro e w1 ⟨v',sl',rfl,hat',S2⟩;obtain⟨a',c',rfl⟩:=hat'.shape
 have S3:=S2.permR (l2:=(w.heap.size+1,Jb 0 ByteArray.empty (.slice none 0 0))::(sl'++(il++r)++[(w.heap.size,Jb 2 tx (.slice a fs.length c))])) (J5 fun f=>by simp only[SC];omega)
 generalize w.heap.size=b at S3⊢;obtain⟨x0,x1,x2,fz⟩:=Jn S3.own.head
 have hlt:=Jf S3.own.head;have S4:=hid (((S3.setItem 2 tx (.slice a' fs.length c')).less (List.sublist_cons_self _ _)).less (List.sublist_append_left _ _));clear hcopy S2 S3 hat';go_wp2_with fail;refine bodyPost_ret (v:=.tuple #[.agg #[.int .i64 2,.string tx,.slice a' fs.length c'],.string ByteArray.empty,.int .i64 91]) (by simp[results,Tryz.results97,go_sem, *]<;>rfl) rfl ?_
 exact⟨⟨2,tx,fs⟩,ByteArray.empty,91,.inr ⟨by decide,by simp[K2]⟩,a',_,c',sl',rfl,fun h=>absurd h (by decide),S4.out⟩
theorem Jc9 (hS:J3 w0 [] w r) (hG:Jau w0) (kd:Int) (hk:kd=0\/kd=1) (text:ByteArray) (ht:text.size<=1099511627776) (fb:Nat) (hfb:fb<18446744073709551616):
 Calls Tryz.prog 97 #[J6 kd text (.slice none 0 0),.float .f64 fb] w (Jo8 w0 r []):=by
 have S1:=(hS.alloc (Jb kd text (.slice none 0 0))).alloc (Jb 0 ByteArray.empty (.slice none 0 0));rw[World.size_alloc] at S1;have hpar:=hid (Jes S1 hG text ht);have hG:=hid hG;replace hfb:=hid hfb;have hS1:=hid S1;clear hS;go_enter Tryz.func97,Tryz.ntmps97;unfold J6;go_upto_block 0 with fail;go_cut [7,8] from 11 to 23 (fun s7 s8 wx=>∃(wb:Nat) (ek:Int),s7= .float .f64 wb/\s8= .int .i64 ek/\Hid (wb<18446744073709551616)/\Hid (ek=0\/ek=21)/\Hid (J3 w0 [] wx ((w.heap.size+1,Jb 0 ByteArray.empty (.slice none 0 0))::(w.heap.size,Jb kd text (.slice none 0 0))::r)))
 case first=>
  rcases hk with rfl|rfl
  ·go_wp2_with fail
   go_meet
   exact⟨0,0,rfl,rfl,hid (by decide),hid (.inl rfl),hS1⟩
  ·go_wp2_with fail
   refine hpar.out.mono ?_;rintro e w1 ⟨wb,ek,hwb,hek,rfl,S2⟩;replace S2:=hid S2;replace hwb:=hid hwb;replace hek:=hid hek;go_wp2_with fail;go_meet
   exact⟨wb,ek,rfl,rfl,hwb,hek,S2⟩
 case rest=>
  obtain⟨wb,ek,rfl,rfl,hwb,hek,S2⟩:=hcut
  clear hpar hS1 S1;generalize w.heap.size=b at S2⊢;obtain⟨y0,y1,y2,fy⟩:=Jn S2.out.own.head
  obtain⟨x0,x1,x2,fx⟩:=Jn S2.out.own.tail.head
  have hlt:=Jf S2.out.own.head;have hbad:=hid (((S2.out.setItem kd text (.slice none 0 0)).less (List.sublist_cons_self _ _)).less (List.sublist_cons_self _ _));have hcnt:=fun w=>hid (Jds wb w)
  have hcnt2:=fun w=>hid (Jds fb w)
  have hbadp:∀c:Int,(¬c=0/\K2 c)->Hid (∀w',J3 w0 [] w' r->Jo8 w0 r [] (.returned (.tuple #[.agg #[.int .i64 kd,.string text,.slice none 0 0],.string ByteArray.empty,.int .i64 c])) w'):=fun c hc=>hid fun w' h=>
   ⟨⟨kd,text,[]⟩,ByteArray.empty,c,.inr hc,none,0,0,[],rfl,fun h0=>absurd h0 hc.1,h⟩
  have k93:=hbadp 93 ⟨by decide,by simp[K2]⟩
  have k21:=hbadp 21 ⟨by decide,by simp[K2]⟩
  clear hbadp;rcases hek.out with rfl|rfl
  ·cases hc1:J12 wb with
   |false=>
    rw[hc1] at hcnt;clear hcnt2;go_wp2_with fail;with_reducible refine(hcnt _).out.mono ?_
    rintro e w1 ⟨rfl,rfl⟩;go_wp2_with fail;refine bodyPost_ret (v:=.tuple #[.agg #[.int .i64 kd,.string text,.slice none 0 0],.string ByteArray.empty,.int .i64 93]) (by simp[results,Tryz.results97,go_sem, *]<;>rfl) rfl ?_
    exact k93.out _ hbad.out
   |true=>
    rw[hc1] at hcnt;cases hc2:J12 fb with
    |false=>
     rw[hc2] at hcnt2;go_wp2_with fail;with_reducible refine(hcnt _).out.mono ?_
     rintro e w1 ⟨rfl,rfl⟩;go_wp2_with fail;with_reducible refine(hcnt2 _).out.mono ?_
     rintro e w1 ⟨rfl,rfl⟩;go_wp2_with fail;refine bodyPost_ret (v:=.tuple #[.agg #[.int .i64 kd,.string text,.slice none 0 0],.string ByteArray.empty,.int .i64 21]) (by simp[results,Tryz.results97,go_sem, *]<;>rfl) rfl ?_
     exact k21.out _ hbad.out
    |true=>
     rw[hc2] at hcnt2;obtain⟨sm,hsm,hsm2⟩:=Jva hwb.out hfb.out hc1 hc2
     have hadd:=fun w=>hid (Jko hsm w)
     cases hc3:J12 sm with
     |false=>
      rw[hc3] at hadd;simp only[Bool.false_eq_true,if_false] at hadd;clear hsm hsm2 hc1 hc2 hc3;go_wp2_with fail;with_reducible refine(hcnt _).out.mono ?_
      rintro e w1 ⟨rfl,rfl⟩;go_wp2_with fail;with_reducible refine(hcnt2 _).out.mono ?_
      rintro e w1 ⟨rfl,rfl⟩;go_wp2_with fail;with_reducible refine(hadd _).out.mono ?_
      rintro e w1 ⟨rfl,rfl⟩;go_wp2_with fail;refine bodyPost_ret (v:=.tuple #[.agg #[.int .i64 kd,.string text,.slice none 0 0],.string ByteArray.empty,.int .i64 21]) (by simp[results,Tryz.results97,go_sem, *]<;>rfl) rfl ?_
      exact k21.out _ hbad.out
     |true=>
      rw[hc3] at hadd;simp only[if_true] at hadd;have hfin:=Jye hsm2 hc3;have htx:=fun (w':World) (r':Hp) (h:J3 w0 [] w' r')=>hid (Ji5 h hG.out.g hG.out.f hfin)
      obtain⟨tx,htxe⟩:∃tx,Jan sm=tx:=⟨_,rfl⟩
      rw[htxe] at htx;replace htxe:=hid htxe;replace htx:=hid htx;clear hsm hsm2 hc1 hc2 hc3 hfin k93 k21 hbad x0 x1 x2 fx y0 y1 y2 fy hlt;go_wp2_with fail;with_reducible refine(hcnt _).out.mono ?_
      rintro e w1 ⟨rfl,rfl⟩;go_wp2_with fail;with_reducible refine(hcnt2 _).out.mono ?_
      rintro e w1 ⟨rfl,rfl⟩;go_wp2_with fail;with_reducible refine(hadd _).out.mono ?_
      rintro e w1 ⟨rfl,rfl⟩;have h1:=htx.out _ _ S2.out;clear S2 hcnt hcnt2 hadd;go_wp2_with fail;with_reducible refine h1.out.mono ?_
      rintro e w3 ⟨rfl,S3⟩;have hit:=hid (J8w S3 tx);clear h1 S3;go_wp2_with fail;refine hit.out.mono ?_;rintro e w4 ⟨rfl,S4⟩;have h2:=htx.out _ _ S4;clear hit S4 htx;unfold J6;go_wp2_with fail;with_reducible refine h2.out.mono ?_
      rintro e w5 ⟨rfl,S5⟩;obtain⟨y0,y1,y2,fy⟩:=Jn S5.own.head
      have hlt:=Jf S5.own.head;have hlast:=hid (((S5.setItem 1 tx (.slice none 0 0)).less (List.sublist_cons_self _ _)).less (List.sublist_cons_self _ _));clear h2 S5;go_wp2_with fail;refine bodyPost_ret (v:=.tuple #[J6 1 tx (.slice none 0 0),.string tx,.int .i64 0]) (by simp[results,Tryz.results97,go_sem,J6, *]<;>rfl) rfl ?_
      exact⟨Ji tx,tx,0,.inl ⟨rfl,rfl⟩,none,0,0,[],rfl,fun _=>⟨rfl,rfl⟩,hlast.out⟩
  ·go_wp2_with fail
   refine bodyPost_ret (v:=.tuple #[.agg #[.int .i64 kd,.string text,.slice none 0 0],.string ByteArray.empty,.int .i64 93]) (by simp[results,Tryz.results97,go_sem, *]<;>rfl) rfl ?_
   exact k93.out _ hbad.out
theorem Jqr {il:Hp} {o:Option Itm} (hS:J3 w0 [] w (il++r)) (hG:Jau w0) (hr:∀it,o=some it->J0e it) (hat:Jj v (o.getD Jc).fs il) (fb:Nat) (hfb:fb<18446744073709551616):
 Calls Tryz.prog 97 #[J6 (o.getD Jc).kind (o.getD Jc).text v,.float .f64 fb] w (Jo8 w0 r il):=by
 cases o with
 |none=>
  obtain⟨rfl,rfl⟩:=J3o rfl hat
  exact Jc9 hS hG 0 (.inl rfl) ByteArray.empty (by decide) fb hfb
 |some it=>
  simp only[Option.getD_some] at hat⊢;have hit:=hr it rfl;rcases hit with⟨h1,h2,h3⟩|⟨h1,_,_,_,h5,_⟩
  ·obtain⟨rfl,rfl⟩:=J3o h3 hat
   exact Jc9 hS hG it.kind (.inr h1) it.text (by omega) fb hfb
  ·exact Jmj hS h1 hat (by omega) fb
def Ja5 (S:St) (now:Int) (k:ByteArray) (T:St×Lf):Prop:=
 T=(S,Kt 93)\/∃nx tx code,((code=0/\nx=Ji tx)\/(¬code=0/\K2 code))/\T=J6q (S.get k now) now k nx code (J11 tx)
def Jsb (w0:World) (r:Hp) (sb:Nat) (S:St) (now:Int) (k:ByteArray) (e:Ending) (w':World):Prop:=
 ∃T,Ja5 S now k T/\Jp w0 r sb T.1 (Ja T.2) e w'
theorem Jis {S:St} {g off:Nat} {k m:ByteArray} {ws:List ByteArray} (h:Ctx w0 w l r sb S g off (k::m::ws)) (hF:Jau w0) (now:Int) (cap:Nat):
 Calls Tryz.prog 47 #[Kv sb now g off (k::m::ws).length cap] w (Jsb w0 r sb S now k):=by
 have H:=(h.alloc (Jy sb now g off (k::m::ws).length cap)).alloc J4;have hm:=h.args.small m (by simp)
 have hn:(1:Int)<(((k::m::ws).length:Nat):Int):=by simp only[List.length_cons];omega
 generalize hlen:(k::m::ws).length=n at H hn⊢;replace hlen:=hid hlen;have hn2:1<n:=by omega
 have hn3:(0:Int)<(n:Int):=by omega
 have hn4:0<n:=by omega
 clear h;replace H:=hid H;go_enter Tryz.func47,Tryz.ntmps47;unfold Kv;go_upto_region 1 with fail;generalize hw1:(w.alloc _).alloc _=w1;replace H:Ctx w0 w1 _ _ _ _ _ _ _:=hw1▸H.out;clear hw1;simp only[World.size_alloc] at H;generalize w.heap.size=b at H⊢;have hjob:=hid (Ctx.job (A:=[(b+1,J4)]) H);obtain⟨R,hR⟩:∃R,R=[(b+1,J4)]++(b,Jy sb now g off n cap)::r:=⟨_,rfl⟩
 rw[<-hR] at hjob;replace H:Ctx w0 w1 l R sb S g off (k::m::ws):=hR▸H;obtain⟨j0,j1,j2⟩:=hjob.out.at_ w1 ⟨l,H.st⟩
 have ja:=hjob.out.arg w1 ⟨l,H.st⟩ 1 m rfl;have hpar:=hid (Jes H.st hF m hm)
 have hend:∀(w':World) (l3:Hp) (a':Lf),J3 w0 [] w' (l3++R)->J3 w0 [] _ (l3++r):=fun w' l3 a' h=>((h.permR (l2:=(b+1,J4)::(l3++r++[(b,Jy sb now g off n cap)])) (J5 fun f=>by
  rw[hR];simp only[SC];omega)).setLf a').less (List.sublist_append_left _ _)
 have hres:(b+1,J4)∈R:=by rw[hR];simp
 have hF:=hid hF;replace H:=hid H;replace hR:=hid hR;go_wp2_with fail;refine hpar.out.mono ?_;rintro e0 w2 ⟨fb,ek,hfb,hek,rfl,S2⟩;clear hpar j0 j1 j2 ja;rcases hek with rfl|rfl
 rotate_left
 ·have herr:=hid (J23 S2 93 (by unfold K2;omega))
  obtain⟨e,he⟩:∃e,e=Kt 93:=⟨_,rfl⟩
  have hout:Hid (Ja5 S now k (S,e)):=hid (.inl (by rw[he]))
  unfold Kt at he;clear S2 hjob;generalize Jx 93=te at herr he;replace he:=hid he;go_wp2_with fail;refine herr.out.mono ?_;rintro e2 w3 ⟨rfl,S5⟩;have S9:=hid (hend w3 l ⟨2,te,0⟩ S5);obtain⟨⟨c0,hc0⟩,⟨c1,hc1⟩,⟨c2,hc2⟩,⟨c3,hc3⟩,⟨c4,hc4⟩,⟨c5,hc5⟩,fz,hlt⟩:=Jl (S5.own.right.at_ _ hres)
  clear herr S5 hend hres hR;unfold J7;go_wp2_with fail;refine bodyPost_ret (v:=Ja ⟨2,te,0⟩) (by simp[results,Tryz.results47,go_sem,J7,Ja, *]<;>rfl) rfl ?_
  refine⟨(S,e),hout.out,?_⟩
  rw[he.out];exact⟨rfl,l,H.out.is,S9.out⟩
 ·replace H:Ctx w0 w2 l R sb S g off (k::m::ws):=H.out.at (x:=[]) rfl S2
  clear S2 hend hres;go_upto_region 4 with fail;have hget:∀(w':World) (x:Hp),Hid (J3 w0 [] w' (x++(l++R))->_):=fun w' x=>hid fun hw=>H.get k (by simp) now x hw
  have hs1:Hid (J3 w0 [] w2.drew ([]++(l++R))):=hid H.st.drew;have hs2:Hid (∀o:Obj,J3 w0 [] (w2.alloc o).drew ([(w2.heap.size,o)]++(l++R))):=hid fun o=>(H.st.alloc o).drew
  have hx1:Hid (InX w0 R w2.drew):=hid ⟨l,H.st.drew⟩;have hx0:Hid (InX w0 R w2):=hid ⟨l,H.st⟩;have hright:Hid (∀it,(S.look k now)=some it->J0e it):=hid H.right;have hgot:Hid (∀(w':World) (l2 x:Hp),Jh l2 sb (S.get k now)->J3 w0 [] w' (l2++(x++R))->Ctx w0 w' l2 (x++R) sb (S.get k now) g off _):=hid fun w' l2 x h1 h2=>H.got k now h1 h2
  replace hR:=hid hR;clear H;obtain⟨kd,hkd⟩:∃kd,kd=((S.look k now).getD Jc).kind:=⟨_,rfl⟩
  obtain⟨tx,htx⟩:∃tx,tx=((S.look k now).getD Jc).text:=⟨_,rfl⟩
  obtain⟨is,his⟩:∃is,is=(S.look k now).isSome:=⟨_,rfl⟩
  rw[<-hkd,<-htx,<-his] at hget;replace hkd:=hid hkd;replace htx:=hid htx;replace his:=hid his;go_cut [5,6] (fun s3 s4 wc=>∃nb va vn vc vl l2,s3= .pointer (some ⟨nb,0,none⟩)/\s4= .bool is/\Hid (Jj (.slice va vn vc) ((S.look k now).getD Jc).fs vl)/\Hid (Jh l2 sb (S.get k now))/\Hid (J3 w0 [] wc ((nb,Jb kd tx (.slice va vn vc))::(l2++(vl++R)))))
  case first=>
   go_region_held3 (fun w'=>w'.cell? ⟨b,0,none⟩=some (ptr sb)/\w'.cell? ⟨b,1,none⟩=some (.int .i64 now)/\w'.cell? ⟨b,2,none⟩=some (.slice (some ⟨g,off,none⟩) n cap)/\w'.cell? ⟨g,off,none⟩=some (.string k)/\Hid (InX w0 R w'))
    (first|(with_reducible exact hjob.out.one hx1)|(with_reducible exact hjob.out.one (by assumption))|(with_reducible exact hjob.out.one (InX.alloc (by assumption) _))|(with_reducible exact hjob.out.one (InX.drew (InX.alloc (by assumption) _)))|(with_reducible exact hjob.out.one (hset.out _ _ _))|(fail "keep"))
    (first|(go_at_call 39;refine((hget _ _).out hs1.out).mono ?_;rintro e wq ⟨va,vn,vc,vl,l2,rfl,hat,hX,S2,hx2⟩)|(go_at_call 39;refine((hget _ _).out (hs2.out _)).mono ?_;rintro e wq ⟨va,vn,vc,vl,l2,rfl,hat,hX,S2,hx2⟩;obtain⟨z0,z1,z2,zf⟩:=Jn S2.out.own.head;have zl:=Jf S2.out.own.head;have hset:Hid (∀v0 v1 v2,_):=hid fun v0 v1 v2=>InX.set3 (A:=l2++vl) (by rw[List.append_assoc];exact S2.out) v0 v1 v2))
   ·go_wp2_with fail
    go_meet
    exact⟨_,va,vn,vc,vl,l2,rfl,rfl,hat,hX,hid (S2.out.alloc _)⟩
   ·go_wp2_with fail
    go_meet
    exact⟨_,va,vn,vc,vl,l2,rfl,rfl,hat,hX,hid (((S2.out.set 0 _).set 1 _).set 2 _)⟩
  case rest=>
   obtain⟨nb,va,vn,vc,vl,l2,rfl,rfl,hat,hX,S3⟩:=hcut
   clear hget hs1 hs2 hx1 hx0;obtain⟨z0,z1,z2,zf⟩:=Jn S3.out.own.head
   have hadd:=Jqr (S3.out.permR (l2:=vl++((nb,Jb kd tx (.slice va vn vc))::(l2++R))) (J5 fun f=>by simp only[SC];omega)) hF.out hright.out hat.out fb hfb
   unfold J6 at hadd;rw[<-hkd.out,<-htx.out] at hadd;replace hadd:=hid hadd;clear hat S3 hright hkd htx his;go_wp2_with fail;refine hadd.out.mono ?_;rintro e w3 ⟨nx,sm,code,hcode,ua,un,uc,il,rfl,hnil,S4⟩;replace hcode:=hid hcode;clear hadd z0 z1 z2 zf;replace hnil:=hid hnil;replace S4:=hid S4;go_wp2_with fail;generalize hw3:w3.alloc _=w4;have S5:J3 w0 [] w4 _:=hw3▸S4.out.alloc (Jb nx.kind nx.text (.slice ua un uc));clear hw3 S4;generalize w3.heap.size=nb2 at S5⊢;obtain⟨X,hXX⟩:∃X:Hp,X=(nb2,Jb nx.kind nx.text (.slice ua un uc))::(il++(vl++[(nb,Jb kd tx (.slice va vn vc))])):=⟨_,rfl⟩
   have S6:=S5.permR (l2:=l2++(X++R)) (J5 fun f=>by
    rw[hXX];simp only[SC];omega)
   have hmem:(nb2,Jb nx.kind nx.text (.slice ua un uc))∈X:=by rw[hXX];simp
   have J3c:∀p:InW w0 [] (l2++(X++R)),Jde p.w nb2 (.int .i64 nx.kind) (.string nx.text) (.slice ua un uc):=fun p=>Jn (p.h.own.right.left.at_ _ hmem)
   have i0:∀p:InW w0 [] (l2++(X++R)),p.w.cell? ⟨nb2,0,none⟩=some (.int .i64 nx.kind):=fun p=>(J3c p).c0
   have i1:∀p:InW w0 [] (l2++(X++R)),p.w.cell? ⟨nb2,1,none⟩=some (.string nx.text):=fun p=>(J3c p).c1
   have i2:∀p:InW w0 [] (l2++(X++R)),p.w.cell? ⟨nb2,2,none⟩=some (.slice ua un uc):=fun p=>(J3c p).c2
   have hin:∀p:InW w0 [] (l2++(X++R)),InX w0 R p.w:=fun p=>⟨l2++X,by rw[List.append_assoc];exact p.h⟩
   have j0:∀p:InW w0 [] (l2++(X++R)),p.w.cell? ⟨b,0,none⟩=some (ptr sb):=fun p=>(hjob.out.at_ p.w (hin p)).c0
   have j1:∀p:InW w0 [] (l2++(X++R)),p.w.cell? ⟨b,1,none⟩=some (.int .i64 now):=fun p=>(hjob.out.at_ p.w (hin p)).c1
   have j2:∀p:InW w0 [] (l2++(X++R)),p.w.cell? ⟨b,2,none⟩=some (.slice (some ⟨g,off,none⟩) n cap):=fun p=>(hjob.out.at_ p.w (hin p)).c2
   replace S6:=hid S6;clear J3c hin hmem S5;replace hXX:=hid hXX;refine Jq 5 S6.out (by kernel_rfl) (by kernel_rfl) (fun hne=>?_)
   simp only[List.take_succ_cons,List.take_zero,List.drop_succ_cons,List.drop_zero];repeat (go_big_quiet_step ((go_at_call 84;refine Calls.inw (J97 (InW.h _) _))))
   refine J04 fun w5 S7=>?_
   clear i0 i1 i2 j0 j1 j2 hne S6
   have hkeep:Hid (∃T,Ja5 S now k T/\Calls Tryz.prog 93 #[Kv sb now g off n cap,.agg #[.int .i64 nx.kind,.string nx.text,.slice ua un uc],.int .i64 code,Ja (J11 sm)] w5 (Jp w0 (X++R) sb T.1 (Ja T.2))):=hid (by
    refine⟨_,.inr ⟨nx,sm,code,hcode.out,rfl⟩,?_⟩
    rcases hcode.out with⟨hc,hs⟩|⟨hne,hkn⟩
    ·obtain⟨_,hv⟩:=hnil.out hc
     have hk:=Je8 (hgot.out w5 l2 X hX.out S7) now cap sm (J11 sm);rw[hlen.out] at hk;rw[hv,hs,hc];exact hk
    ·simp only[J6q,if_neg hne]
     exact Je7 S7 hX.out nx.kind nx.text _ code hne hkn (J11 sm))
   obtain⟨T,hT,hkeep⟩:=hkeep.out
   replace hT:=hid hT;unfold Kv Ja J11 J7 at hkeep;simp only at hkeep
   replace hkeep:=hid hkeep;unfold J7;clear S7 hcode hnil hgot hX hjob;go_wp2_with fail;refine hkeep.out.mono ?_;rintro e w6 ⟨rfl,l5,hX5,S8⟩;rw[hR.out] at S8
   have S9:=S8.permR (l2:=(b+1,J4)::(l5++r++(X++[(b,Jy sb now g off n cap)]))) (J5 fun f=>by
    simp only[SC];omega)
   have S10:=hid ((S9.setLf T.2).less (List.sublist_append_left _ _));obtain⟨⟨c0,hc0⟩,⟨c1,hc1⟩,⟨c2,hc2⟩,⟨c3,hc3⟩,⟨c4,hc4⟩,⟨c5,hc5⟩,fz,hlt⟩:=J0d S9.own
   clear hkeep S8 S9 hR hXX;go_wp2_with fail;refine bodyPost_ret (v:=Ja T.2) (by simp[results,Tryz.results47,go_sem,J7,Ja, *]<;>rfl) rfl ?_
   exact⟨T,hT.out,rfl,l5,hX5,S10.out⟩
def J4h (fs:Fs):Prop:=J1z fs/\fs.length<=256/\∀f∈fs,f.1.size<=512/\f.2.size<=4096
theorem Jwg {text:ByteArray} {f:ByteArray×ByteArray} (h:f∈fput fs name text):f=(name,text)\/f∈fs:=by
 rw[J70,List.mem_append,List.mem_cons] at h;rcases h with h|h|h
 ·exact .inr (List.mem_of_mem_take h)
 ·exact .inl h
 ·exact .inr (List.mem_of_mem_drop h)
theorem Jbh (h:J5u fs name s=true):name.size<=512/\s.size<=4096/\(has fs name=true\/fs.length<256):=by
 simp only[J5u,Bool.and_eq_true,Bool.or_eq_true,decide_eq_true_eq] at h;exact⟨h.1.1,h.1.2,h.2⟩
theorem J4h.fput (h:J4h fs) (hp:J5u fs name s=true):J4h (fput fs name s)/\0<(fput fs name s).length:=by
 obtain⟨h1,h2,h3⟩:=h
 obtain⟨p1,p2,p3⟩:=Jbh hp
 have hl:=Jtt fs name s;refine⟨⟨h1.fput name s,?_,fun f hf=>?_⟩,?_⟩
 ·cases hh:has fs name with
  |true=>rw[hh] at hl;simp at hl;omega
  |false=>rw[hh] at hl p3;simp at hl p3;omega
 ·rcases Jwg hf with rfl|hf
  ·exact⟨p1,p2⟩
  ·exact h3 f hf
 ·rw[J70];simp;omega
theorem J4h.right (h:J4h fs) (h0:0<fs.length):J0e (J3c fs):=.inr ⟨rfl,rfl,h.1,h0,h.2.1,h.2.2⟩
def J56:Fs->Int->List ByteArray->Fs×Int×Int
 |fs,n,k::s::ws=>if J5u fs k s then J56 (fput fs k s) (n+if has fs k then 0 else 1) ws else(fs,n,94)
 |fs,n,_=>(fs,n,0)
def Jad (S:St) (now:Int) (key:ByteArray) (p:Fs×Int×Int):St×Lf:=if p.2.2=0 then J7f S now key (J3c p.1) p.2.1 else(S,Kt p.2.2)
def J8r (S:St) (now:Int) (key:ByteArray) (fs:Fs) (ws:List ByteArray):St×Lf:=Jad S now key (J56 fs 0 ws)
theorem Jmc {n:Int} {l:List ByteArray} (h:l.length<=1):J56 fs n l=(fs,n,0):=by
 match l,h with
 |[],_=>rfl
 |[_],_=>rfl
 |_::_::_,h=>simp at h
def J8k (w0:World) (R l x:Hp) (kd:Int) (tx:ByteArray) (fs':Fs) (fr:Bool) (er:Int) (e:Ending) (w2:World):Prop:=
 ∃va vn vc sl2,e= .returned (.tuple #[.agg #[.int .i64 kd,.string tx,.slice va vn vc],.bool fr,.int .i64 er])/\Hid (Jj (.slice va vn vc) fs' sl2)/\Hid (J3 w0 [] w2 (x++(l++(sl2++R))))/\Hid (InX w0 R w2)
theorem J8k.of {x:Hp} {w2:World} (h:J4t w0 [] (x++(l++R)) sl fs name s e w2):J8k w0 R l x 2 ByteArray.empty (fput fs name s) (!has fs name) 0 e w2:=by
 obtain⟨v,sl2,rfl,h1,h2⟩:=h
 obtain⟨va,vc,rfl⟩:=h1.shape
 have h3:=h2.pick (l2:=x++(l++(sl2++R))) (m:=sl) (J5 fun f=>by simp only[SC];omega)
 exact⟨va,_,vc,sl2,rfl,hid h1,hid h3,hid ⟨x++(l++sl2),by rw[List.append_assoc,List.append_assoc];exact h3⟩⟩
theorem J8k.bad {x:Hp} {kd:Int} {tx:ByteArray} {w2:World} (h:J8j w0 [] (x++(l++R)) sl kd tx fs e w2):J8k w0 R l x kd tx fs false 94 e w2:=by
 obtain⟨v,sl2,rfl,h1,h2⟩:=h
 obtain⟨va,vc,rfl⟩:=h1.shape
 have h3:=h2.pick (l2:=x++(l++(sl2++R))) (m:=sl) (J5 fun f=>by simp only[SC];omega)
 exact⟨va,_,vc,sl2,rfl,hid h1,hid h3,hid ⟨x++(l++sl2),by rw[List.append_assoc,List.append_assoc];exact h3⟩⟩
theorem J3.setJobItem {b:Nat} {kind:Int} {text:ByteArray} {now:Int} {key:ByteArray} {ar:Value} (h:J3 w0 l w ((b,Jk sb kind text v now key ar)::r)) (k2:Int) (t2:ByteArray) (v2:Value):
 J3 w0 l (((w.setCell ⟨b,1,none⟩ (.int .i64 k2)).setCell ⟨b,2,none⟩ (.string t2)).setCell ⟨b,3,none⟩ v2) ((b,Jk sb k2 t2 v2 now key ar)::r):=by
 have k:=((h.set 1 (.int .i64 k2)).set 2 (.string t2)).set 3 v2;exact k
theorem Jt2 {S:St} {kind:Int} {text:ByteArray} (hk:(kind==1)=false) (hS:J3 w0 [] w (l++(sl++r))) (hG:J17 w0) (hX:Jh l sb S) (hT:Kx S) (hl:S.load<=1000000000000)
 (hat:Jj v fs sl) (hok:J4h fs) (key:ByteArray) (hks:key.size<=1099511627776) (now:Int) {g off:Nat} {ws:List ByteArray} (ha:J2h w0 r g off ws) (hfew:ws.length<=1000) (h2:2<=ws.length) (cap:Nat):
  Calls Tryz.prog 99 #[Kz sb kind text v now key (.slice (some ⟨g,off,none⟩) ws.length cap)] w (Jp w0 r sb (J8r S now key fs ws).1 (Ja (J8r S now key fs ws).2)):=by
  obtain⟨va,vc,rfl⟩:=hat.shape
  obtain⟨n2,hn2⟩:∃n2,n2=ws.length:=⟨_,rfl⟩
  rw[<-hn2] at hfew h2⊢;replace hn2:=hid hn2;obtain⟨nf,hnf⟩:∃nf,nf=fs.length:=⟨_,rfl⟩
  rw[<-hnf] at hat⊢;replace hnf:=hid hnf;have S1:=(hS.alloc (Jk sb kind text (.slice va nf vc) now key (.slice (some ⟨g,off,none⟩) n2 cap))).alloc J4;simp only[World.size_alloc] at S1;obtain⟨T,hTT⟩:∃T,T=J8r S now key fs ws:=⟨_,rfl⟩
  rw[<-hTT];replace hTT:=hid hTT;replace S1:=hid S1;clear hS;go_enter Tryz.func99,Tryz.ntmps99;unfold Kz;go_wp2_with fail;generalize hw1:(w.alloc _).alloc _=w1;replace S1:J3 w0 [] w1 _:=hw1▸S1.out;clear hw1;generalize w.heap.size=b at S1⊢
  have S2:Hid (J3 w0 [] w1 (l++(sl++((b,Jk sb kind text (.slice va nf vc) now key (.slice (some ⟨g,off,none⟩) n2 cap))::((b+1,J4)::r))))):=hid (S1.permR (J5 fun f=>by
   simp only[SC];omega))
  clear S1;have hat0:=hid hat;have hok0:=hid hok;have hk0:=hid hk;clear hat hok hk;go_loopw [3,4,5,6,7] (fun s3 s4 s5 s6 s7 wr=>∃(k:Nat) (n kd:Int) (tx:ByteArray) (vv:Value) (fs':Fs) (sl':Hp),s4= .int .i64 k/\s3= .int .i64 n/\k<=n2+1/\0<=n/\n<=k/\Hid ((kd==1)=false)/\Hid (J4h fs')/\Hid (0<k->0<fs'.length/\kd=2/\tx=ByteArray.empty)/\Hid (T=Jad S now key (J56 fs' n (ws.drop k)))/\Hid (Jj vv fs' sl')/\Hid (J3 w0 [] wr (l++(sl'++((b,Jk sb kd tx vv now key (.slice (some ⟨g,off,none⟩) n2 cap))::((b+1,J4)::r)))))) (fun s3 s4 s5 s6 s7 wr=>(n2+2 - intOf s4).toNat)
  case atStart=>exact⟨0,0,kind,text,_,fs,sl,rfl,rfl,Nat.zero_le _,Int.le_refl _,Int.le_refl _,hk0,hok0,hid (fun h=>absurd h (Nat.lt_irrefl _)),hid hTT.out,hat0,S2⟩
  case round=>
   obtain⟨k,n,kd,tx,vv,fs',sl',rfl,rfl,hkn,hn0,hn1,hkd,hok',hpos,hres,hat',S3⟩:=hrel
   clear S2 hat0 hok0 hk0 hTT hnf;obtain⟨va,vc,rfl⟩:=hat'.out.shape
   obtain⟨nf,hnf⟩:∃nf,nf=fs'.length:=⟨_,rfl⟩
   rw[<-hnf] at hat' S3;replace hnf:=hid hnf;by_cases hlt:k+1<n2
   ·obtain⟨x,hx⟩:∃x,ws[k]? =some x:=⟨ws[k]'(by rw[<-hn2.out];omega),List.getElem?_eq_getElem _⟩
    obtain⟨y,hy⟩:∃y,ws[k+1]? =some y:=⟨ws[k+1]'(by rw[<-hn2.out];omega),List.getElem?_eq_getElem _⟩
    have hdrop:ws.drop k=x::y::ws.drop (k+2):=by
     rw[List.drop_eq_getElem_cons (by rw[<-hn2.out];omega),List.drop_eq_getElem_cons (by rw[<-hn2.out];omega)]
     rw[(List.getElem?_eq_some_iff.1 hx).2,(List.getElem?_eq_some_iff.1 hy).2]
    have hres2:=hres.out;rw[hdrop,J56] at hres2;obtain⟨R,hRR⟩:∃R:Hp,R=(b,Jk sb kd tx (.slice va nf vc) now key (.slice (some ⟨g,off,none⟩) n2 cap))::((b+1,J4)::r):=⟨_,rfl⟩
    rw[<-hRR] at S3;have hjm:(b,Jk sb kd tx (.slice va nf vc) now key (.slice (some ⟨g,off,none⟩) n2 cap))∈R:=by rw[hRR];simp
    have hio3:=J1n (S3.out.own.right.right.at_ _ hjm);have hlt1:(k:Int)+1<(n2:Int):=by omega
    have hlt2:(k:Int)<(n2:Int):=by omega
    have hlt3:k<n2:=by omega
    have hS4:J3 w0 [] wr (sl'++(l++R)):=S3.out.permR (J5 fun f=>by simp only[SC];omega)
    have hs1:Hid (J3 w0 [] wr.drew ([]++(sl'++(l++R)))):=hid hS4.drew;have hs2:Hid (∀o:Obj,J3 w0 [] (wr.alloc o).drew ([(wr.heap.size,o)]++(sl'++(l++R)))):=hid fun o=>(hS4.alloc o).drew
    have hx1:Hid (InX w0 R wr.drew):=hid ⟨sl'++l,by rw[List.append_assoc];exact hS4.drew⟩
    have har:Hid (∀w',InX w0 R w'->w'.cell? ⟨g,off+k,none⟩=some (.string x)/\w'.cell? ⟨g,off+(k+1),none⟩=some (.string y)):=hid fun w' ⟨X,hX'⟩=>by
     have hx2:J3 w0 [] w' ((X++[(b,Jk sb kd tx (.slice va nf vc) now key (.slice (some ⟨g,off,none⟩) n2 cap)),(b+1,J4)])++r):=by rw[List.append_assoc];rw[hRR] at hX';exact hX'
     exact⟨ha.at_ w' _ hx2 k x hx,ha.at_ w' _ hx2 (k+1) y hy⟩
    have hkeep:Hid (∀w',Hid (InX w0 R w')->w'.cell? ⟨b,1,none⟩=some (.int .i64 kd)/\w'.cell? ⟨b,2,none⟩=some (.string tx)/\w'.cell? ⟨b,3,none⟩=some (.slice va nf vc)/\w'.cell? ⟨b,6,none⟩=some (.slice (some ⟨g,off,none⟩) n2 cap)/\w'.cell? ⟨g,off+k,none⟩=some (.string x)/\w'.cell? ⟨g,off+(k+1),none⟩=some (.string y)/\Hid (InX w0 R w')):=hid fun w' hx=>by
     obtain⟨_,d1,d2,d3,_,_,d6⟩:=J1n (InX.get hx hjm)
     exact⟨d1,d2,d3,d6,(har.out w' hx.out).1,(har.out w' hx.out).2,hx⟩
    have hput:∃(kd2:Int) (tx2:ByteArray) (fs2:Fs) (fr:Bool) (er:Int),(J5u fs' x y=true/\kd2=2/\tx2=ByteArray.empty/\fs2=fput fs' x y/\fr=(!has fs' x)/\er=0\/J5u fs' x y=false/\er=94)/\∀(w':World) (X:Hp),Hid (J3 w0 [] w' (X++(sl'++(l++R)))->Calls Tryz.prog 161 #[J6 kd tx (.slice va nf vc),.string x,.string y] w' (J8k w0 R l X kd2 tx2 fs2 fr er)):=by
     cases hpo:J5u fs' x y with
     |true=>
      obtain⟨p1,p2,p3⟩:=Jbh hpo
      exact⟨2,ByteArray.empty,fput fs' x y,!has fs' x,0,.inl ⟨rfl,rfl,rfl,rfl,rfl,rfl⟩,fun w' X=>hid fun hw=>(Jg3 (l:=[]) (r:=X++(l++R)) hkd.out (hw.permR (J5 fun f=>by simp only[SC];omega)) hat'.out hok'.out.1 hok'.out.2.1 x y p1 p2 p3).mono fun _ _ hp=>.of hp⟩
     |false=>exact⟨kd,tx,fs',false,94,.inr ⟨rfl,rfl⟩,fun w' X=>hid fun hw=>(Jg4 (l:=[]) (r:=X++(l++R)) hkd.out (hw.permR (J5 fun f=>by simp only[SC];omega)) hat'.out hok'.out.1 hok'.out.2.1 x y hpo).mono fun _ _ hp=>.bad hp⟩
    obtain⟨kd2,tx2,fs2,fr,er,hcase,hput⟩:=hput
    unfold J6 at hput;replace hcase:=hid hcase;replace hres2:=hid hres2;have zs1:IntKind.i64.wrap ((k:Int)+1)=(k:Int)+1:=IntWalk.i64_in _ (by omega)
    have zs2:0<=(k:Int)+1:=by omega
    have zs3:((k:Int)+1).toNat=k+1:=by omega
    clear hres hdrop S3 hS4 hx hy har hjm;obtain⟨c0,c1,c2,c3,c4,c5,c6⟩:=hio3
    go_upto_region 5 with fail;clear c0 c1 c2 c3 c4 c5 c6;go_cut [5,6,7] (fun s5 s6 s7 wc=>∃nb va2 vn vc2 sl2,s5= .pointer (some ⟨nb,0,none⟩)/\s6= .bool fr/\s7= .int .i64 er/\Hid (Jj (.slice va2 vn vc2) fs2 sl2)/\Hid (J3 w0 [] wc ((nb,Jb kd2 tx2 (.slice va2 vn vc2))::(l++(sl2++R)))))
    case first=>
     go_region_held3 (fun w'=>w'.cell? ⟨b,1,none⟩=some (.int .i64 kd)/\w'.cell? ⟨b,2,none⟩=some (.string tx)/\w'.cell? ⟨b,3,none⟩=some (.slice va nf vc)/\w'.cell? ⟨b,6,none⟩=some (.slice (some ⟨g,off,none⟩) n2 cap)/\w'.cell? ⟨g,off+k,none⟩=some (.string x)/\w'.cell? ⟨g,off+(k+1),none⟩=some (.string y)/\Hid (InX w0 R w'))
      (first|(with_reducible exact hkeep.out _ hx1)|(with_reducible exact hkeep.out _ (hset.out _ _ _))|(with_reducible exact hkeep.out _ (by assumption))|(with_reducible exact hkeep.out _ (InX.alloc (by assumption) _))|(with_reducible exact hkeep.out _ (InX.drew (InX.alloc (by assumption) _)))|(fail "keep"))
      (first|(go_at_call 161;refine((hput _ _).out hs1.out).mono ?_;rintro e w2 ⟨va2,vn,vc2,sl2,rfl,hat2,S5,hx2⟩)|(go_at_call 161;refine((hput _ _).out (hs2.out _)).mono ?_;rintro e w2 ⟨va2,vn,vc2,sl2,rfl,hat2,S5,hx2⟩;obtain⟨z0,z1,z2,zf⟩:=Jn S5.out.own.head;have zl:=Jf S5.out.own.head;have hset:Hid (∀v0 v1 v2,_):=hid fun v0 v1 v2=>InX.set3 (A:=l++sl2) (by rw[List.append_assoc];exact S5.out) v0 v1 v2))
     all_goals (
      go_wp2_with fail;go_meet
      first|exact⟨_,va2,vn,vc2,sl2,rfl,rfl,rfl,hat2,hid (S5.out.alloc _)⟩|exact⟨_,va2,vn,vc2,sl2,rfl,rfl,rfl,hat2,hid (((S5.out.set 0 _).set 1 _).set 2 _)⟩)
    case rest=>
     obtain⟨nb,va2,vn,vc2,sl2,rfl,rfl,rfl,hat2,S5⟩:=hcut
     clear hput hs1 hs2 hx1 hkeep zs1 zs2 zs3;rw[hRR] at S5;replace hRR:=hid hRR
     have S6:=S5.out.permR (l2:=(b,Jk sb kd tx (.slice va nf vc) now key (.slice (some ⟨g,off,none⟩) n2 cap))::((nb,Jb kd2 tx2 (.slice va2 vn vc2))::(l++(sl2++((b+1,J4)::r))))) (J5 fun f=>by
      simp only[SC];omega)
     have hio:=S6.own.tail.head;have i0:=J2 hio 0;have i1:=J2 hio 1;have i2:=J2 hio 2;simp only[List.getElem?_toArray,List.getElem?_cons_zero,List.getElem?_cons_succ] at i0 i1 i2;obtain⟨_,d1,d2,d3,_,_,_⟩:=J1n S6.own.head
     have fz:∀j,wc.frozen? ⟨b,j,none⟩=false:=fun j=>Jg S6.own.head j
     have hlt9:=Jf S6.own.head;rcases hcase.out with⟨hpo,rfl,rfl,rfl,hfr,rfl⟩|⟨hpo,rfl⟩
     ·have S7:=hid ((S6.setJobItem 2 ByteArray.empty (.slice va2 vn vc2)).pick (l2:=l++(sl2++((b,Jk sb 2 ByteArray.empty (.slice va2 vn vc2) now key (.slice (some ⟨g,off,none⟩) n2 cap))::((b+1,J4)::r)))) (m:=[(nb,Jb 2 ByteArray.empty (.slice va2 vn vc2))]) (J5 fun f=>by
       simp only[SC];omega))
      have hres3:=hres2.out;rw[if_pos hpo] at hres3;obtain⟨hok2,hlen2⟩:=hok'.out.fput hpo
      replace hok2:=hid hok2;have hpos2:Hid (0<k+2->0<(fput fs' x y).length/\(2:Int)=2/\ByteArray.empty=ByteArray.empty):=hid fun _=>⟨hlen2,rfl,rfl⟩
      have hkd2:Hid (((2:Int)==1)=false):=hid (by decide)
      have hb1:n+1<=9223372036854775807:=by omega
      clear hio S5 S6 hcase hres2 hlen2;cases hh:has fs' x with
      |true=>
       rw[hh] at hres3 hfr;replace hres3:Hid (T=Jad S now key (J56 (fput fs' x y) n (ws.drop (k+2)))):=hid (by rw[hres3];simp)
       obtain rfl:fr=false:=hfr;replace hh:=hid hh;replace hpo:=hid hpo;go_wp2_with fail;go_roundw
       case rel=>exact⟨k+2,n,2,ByteArray.empty,.slice va2 vn vc2,fput fs' x y,sl2,by go_num,rfl,by omega,hn0,by omega,hkd2,hok2,hpos2,hres3,hat2,S7⟩
       case measure=>simp[intOf];omega
      |false=>
       rw[hh] at hres3 hfr;replace hres3:Hid (T=Jad S now key (J56 (fput fs' x y) (n+1) (ws.drop (k+2)))):=hid (by rw[hres3];simp)
       obtain rfl:fr=true:=hfr;replace hh:=hid hh;replace hpo:=hid hpo;go_wp2_with fail;go_roundw
       case rel=>exact⟨k+2,n+1,2,ByteArray.empty,.slice va2 vn vc2,fput fs' x y,sl2,by go_num,rfl,by omega,by omega,by omega,hkd2,hok2,hpos2,hres3,hat2,S7⟩
       case measure=>simp[intOf];omega
     ·have hres3:Hid (T=(S,Kt 94)):=hid (by
       have:=hres2.out
       rw[if_neg (by rw[hpo];decide)] at this
       rw[this];rfl)
      have S7:=S6.permR (l2:=(b+1,J4)::(l++r++(sl2++[(nb,Jb kd2 tx2 (.slice va2 vn vc2)),(b,Jk sb kd tx (.slice va nf vc) now key (.slice (some ⟨g,off,none⟩) n2 cap))]))) (J5 fun f=>by
       simp only[SC];omega)
      have herr:=hid (J4v S7 94 (by unfold K2;omega))
      clear hio S5 S6 S7 hcase hres2 i0 i1 i2 d1 d2 d3;replace hpo:=hid hpo;unfold Kt at hres3;generalize Jx 94=te at herr hres3;go_wp2_with fail;refine herr.out.mono ?_;rintro e w5 ⟨rfl,S8⟩;have S9:=hid ((S8.setLf ⟨2,te,0⟩).less (List.sublist_append_left _ _));obtain⟨⟨z0,hz0⟩,⟨z1,hz1⟩,⟨z2,hz2⟩,⟨z3,hz3⟩,⟨z4,hz4⟩,⟨z5,hz5⟩,fz,hlt9⟩:=Jl S8.own.head
      clear herr S8;unfold J7;go_wp2_with fail;refine bodyPost_ret (v:=Ja ⟨2,te,0⟩) (by simp[results,Tryz.results99,go_sem,J7,Ja, *]<;>rfl) rfl ?_
      rw[hres3.out];exact⟨rfl,l,hX,S9.out⟩
   ·have hk2:0<k:=by omega
    obtain⟨q1,rfl,rfl⟩:=hpos.out hk2
    have hend0:Hid (T=J7f S now key (J3c fs') n):=hid (by
     rw[hres.out,Jmc (by rw[List.length_drop,<-hn2.out];omega)];rfl)
    have hkc:=Jb7 (il:=sl') (kind':=2) (text':=ByteArray.empty) (v':=.slice va nf vc) (it:=J3c fs') S3.out hG hX hT hl key hks (.inl ⟨hok'.out.right q1,hat'.out⟩) ⟨va,nf,vc,rfl⟩ now n (.slice (some ⟨g,off,none⟩) n2 cap);rw[<-hend0.out] at hkc;unfold Kz J6 at hkc;obtain⟨c0,c1,c2,c3,c4,c5,c6⟩:=J1n (S3.out.own.right.right.head)
    have hend:Hid (∀(w':World) (l3:Hp) (a:Lf),J3 w0 [] w' (l3++(sl'++((b,Jk sb 2 ByteArray.empty (.slice va nf vc) now key (.slice (some ⟨g,off,none⟩) n2 cap))::((b+1,J4)::r))))->J3 w0 [] _ (l3++r)):=hid fun w' l3 a h=>((h.permR (l2:=(b+1,J4)::(l3++r++(sl'++[(b,Jk sb 2 ByteArray.empty (.slice va nf vc) now key (.slice (some ⟨g,off,none⟩) n2 cap))]))) (J5 fun f=>by
     simp only[SC];omega)).setLf a).less (List.sublist_append_left _ _)
    have hkc2:Hid (Calls Tryz.prog 162 #[.agg #[ptr sb,.int .i64 2,.string ByteArray.empty,.slice va nf vc,.int .i64 now,.string key,(.slice (some ⟨g,off,none⟩) n2 cap)],.agg #[.int .i64 2,.string ByteArray.empty,.slice va nf vc],.int .i64 n] wr (Jp w0 (sl'++((b,Jk sb 2 ByteArray.empty (.slice va nf vc) now key (.slice (some ⟨g,off,none⟩) n2 cap))::((b+1,J4)::r))) sb T.1 (Ja T.2))):=hid hkc;have hge:¬(k:Int)+1<(n2:Int):=by omega
    clear hkc S3 hend0 hres hpos;go_wp2_with fail;refine hkc2.out.mono ?_;rintro e w3 ⟨rfl,l3,hX3,S4⟩;have S9:=hid (hend.out w3 l3 T.2 S4);obtain⟨⟨z0,hz0⟩,⟨z1,hz1⟩,⟨z2,hz2⟩,⟨z3,hz3⟩,⟨z4,hz4⟩,⟨z5,hz5⟩,fz,hlt9⟩:=Jl (S4.own.right.right.tail.head)
    clear hkc2 S4 hend c0 c1 c2 c3 c4 c5 c6;unfold Ja J7;go_wp2_with fail;refine bodyPost_ret (v:=Ja T.2) (by simp[results,Tryz.results99,go_sem,J7,Ja, *]<;>rfl) rfl ?_
    exact⟨rfl,l3,hX3,S9.out⟩
end Go.Proofs.YtncbcaabanoeoaaGreatDoor
