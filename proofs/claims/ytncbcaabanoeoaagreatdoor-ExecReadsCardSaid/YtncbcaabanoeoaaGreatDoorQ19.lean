/-
(*Store).Ttl, Events.
-/
import Derived.Test.YtncbcaabanoeoaaGreatDoorQ18
set_option linter.unusedVariables false
set_option linter.unusedSimpArgs false
set_option maxRecDepth 100000
set_option maxHeartbeats 8000000
namespace Go.Proofs.YtncbcaabanoeoaaGreatDoor
open Go Go.RowKit
variable {S:St}{w0 w:World}{l r:Hp}{sb:Nat}
def St.persist (S:St) (key:ByteArray):St:={S with D:=K3 S.D key,ev:=if(Je S.D key).isSome then S.ev++[(1,key)] else S.ev}
theorem Fit.undue (h:Fit S) (key:ByteArray) (ev:List (Int×ByteArray)):Fit {S with D:=K3 S.D key,ev:=ev}:=
 ⟨h.nd,fun k hk=>h.ends k (J6h.1 hk).1,Jmt h.dnd,h.key,h.bud,h.le⟩
def St.ttl (S:St) (key:ByteArray) (now:Int):Int:=match Je S.L key with
 |none=> -2
 |some _=>match Je S.D key with
  |none=> -1
  |some t=>t - now
theorem Jpc (hS:J3 w0 [] w (l++r)) (hG:J17 w0) (hX:Jh l sb S) (hev:S.ev.length<=2199023255552) (key:ByteArray) (hk:key.size<=1099511627776) (now:Int)
 (hr:∀t,Je (S.due key now).D key=some t-> -9223372036854775808<=t - now/\t - now<=9223372036854775807):
  Calls Tryz.prog 60 #[ptr sb,.string key,.int .i64 now] w (Jp w0 r sb (S.due key now) (.int .i64 ((S.due key now).ttl key now))):=by
  have hslot:=hid (Jex hS hG hX (by omega) key hk now)
  generalize S.due key now=S' at hslot hr⊢;clear hS hX hev;go_enter Tryz.func60,Tryz.ntmps60;go_wp2_with fail;refine hslot.out.mono ?_;rintro e w1 hP;cases hP with
  |no l' hn he hX1 S1=>
   subst he;have hdone:Hid (Jp w0 r sb S' (.int .i64 (S'.ttl key now)) (.returned (.int .i64 (-2))) w1):=by
    have e:S'.ttl key now= -2:=by simp[St.ttl,hn]
    rw[e];exact⟨rfl,l',hX1,S1⟩
   clear hslot hn hX1 S1 hr;go_wp2_with fail;go_ret;exact hdone.out
  |yes m c s hok hf hc hck hs hi hl he S1=>
   subst he;have c4:=(K1 S1.own).c4;have hget:=hid (Jjc m.xl m.xb S'.D key w1 hok.exp (SM.ownX S1.own));have hst:Hid (∃l',Jh l' sb S'/\J3 w0 [] w1 (l'++r)):=⟨_,⟨m,rfl,hok,hf⟩,S1⟩;clear S1 hok hf hc hck hs hi hslot;cases hd:Je S'.D key with
   |none=>
    have hdone:Hid (Jp w0 r sb S' (.int .i64 (S'.ttl key now)) (.returned (.int .i64 (-1))) w1):=by
     have e:S'.ttl key now= -1:=by simp[St.ttl,hl,hd]
     rw[e];exact⟨rfl,hst⟩
    replace hd:=hid hd;replace hl:=hid hl;clear hr;go_wp2_with fail;refine hget.out.mono ?_;rintro e w2 ⟨rfl,rfl⟩;simp only[hd.out,Option.getD_none,Option.isSome_none];clear hget hst;go_wp2_with fail;go_ret;exact hdone.out
   |some t=>
    have hdone:Hid (Jp w0 r sb S' (.int .i64 (S'.ttl key now)) (.returned (.int .i64 (t - now))) w1):=by
     have e:S'.ttl key now=t - now:=by simp[St.ttl,hl,hd]
     rw[e];exact⟨rfl,hst⟩
    obtain⟨hr1,hr2⟩:=hr t hd
    replace hd:=hid hd;replace hl:=hid hl;clear hr;go_wp2_with fail;refine hget.out.mono ?_;rintro e w2 ⟨rfl,rfl⟩;simp only[hd.out,Option.getD_some,Option.isSome_some];clear hget hst;go_wp2_with fail;go_ret;exact hdone.out
def Jdg (w0:World) (r:Hp) (sb:Nat) (S:St) (e:Ending) (w':World):Prop:=
 ∃v vl l',e= .returned v/\SliceHp 2 41 v S.ev.length (J1g S.ev) vl/\Jh l' sb {S with ev:=[]}/\J3 w0 [] w' (l'++(vl++r))
theorem SM.setEvs {n bud:Nat} {m:SM} (hS:J3 w0 l w (m.hp sb n bud++r)):J3 w0 l (w.setCell ⟨sb,7,none⟩ (.slice none 0 0)) ({m with vv:=.slice none 0 0,vhp:=[]}.hp sb n bud++(m.vhp++r)):=by
 have h:J3 w0 l w ((sb,J1i m n bud)::(m.rest++r)):=hS;refine(h.set 7 (.slice none 0 0)).permR (J5 fun f=>?_)
 rw[J1d];simp only[SM.rest,List.map_append,List.sum_append,List.map_cons,List.sum_cons,List.map_nil,List.sum_nil];show f (sb,J1i {m with vv:=.slice none 0 0,vhp:=[]} n bud)+_=_
 omega
theorem J9n (hS:J3 w0 [] w (l++r)) (hX:Jh l sb S):
 Calls Tryz.prog 14 #[ptr sb] w (Jdg w0 r sb S):=by
 obtain⟨m,rfl,hok,hf⟩:=hX
 have c7:=(K1 hS.own).c7;have fz:=(K1 hS.own).fz;have hlt:=Jf hS.own.left.head;have hevs:=hok.evs;obtain⟨a,c,hv⟩:∃a c,m.vv= .slice a S.ev.length c:=by obtain⟨a,c,h,_⟩:=hevs.form;exact⟨a,c,h⟩
 have hdone:Hid (Jdg w0 r sb S (.returned (.slice a S.ev.length c)) (w.setCell ⟨sb,7,none⟩ (.slice none 0 0))):=by
  refine⟨_,m.vhp,_,rfl,by rw[<-hv];exact hevs,⟨{m with vv:=.slice none 0 0,vhp:=[]},rfl,⟨hok.tab,hok.rcn,hok.exp,hok.slots,hok.free,.nil,hok.cells,hok.num,hok.holds,hok.all,hok.each,hok.few⟩,⟨hf.nd,hf.ends,hf.dnd,hf.key,hf.bud,hf.le⟩⟩,SM.setEvs hS⟩
 rw[hv] at c7;clear hS hok hf hevs hv;go_enter Tryz.func14,Tryz.ntmps14;go_wp2_with fail;go_ret;exact hdone.out
abbrev J5p (t:Int):Int:=min t 4611686018427387904
def St.expire (S:St) (key:ByteArray) (when_ now:Int):St:=
 if(Je S.L key).isSome then(if when_<=now then S.gone key 2 else {S with D:=J2q S.D key (J5p when_),ev:=S.ev++[(1,key)]}) else S
theorem Ju1 {α:Type} {m:AL α} {k x:ByteArray} {v:α} (h:x∈(J2q m k v).map Prod.fst):x∈m.map Prod.fst\/x=k:=by
 unfold J2q at h;split at h
 ·left
  have e:(mset m k v).map Prod.fst=m.map Prod.fst:=by
   unfold mset;rw[List.map_map];refine List.map_congr_left fun p _=>?_
   simp only[Function.comp];split<;>simp_all
  rwa[e] at h
 ·simpa using h
theorem Fit.ending (h:Fit S) {key:ByteArray} {it:Itm} (hl:Je S.L key=some it) (t:Int) (ev:List (Int×ByteArray)):Fit {S with D:=J2q S.D key t,ev:=ev}:=
 ⟨h.nd,fun k hk=>by
  rcases Ju1 hk with hk|rfl
  ·exact h.ends k hk
  ·exact List.mem_map.2 ⟨_,J0v hl,rfl⟩,J6j h.dnd,h.key,h.bud,h.le⟩
theorem Jdz (hS:J3 w0 [] w (l++r)) (hG:J17 w0) (hX:Jh l sb S) (hev:S.ev.length<=2199023255552) (key:ByteArray) (hk:key.size<=1099511627776) (when_ now:Int) (hn0:0<=now) (hw:when_<=9223372036854775807):
 Calls Tryz.prog 89 #[ptr sb,.string key,.int .i64 when_,.int .i64 now] w (Jp w0 r sb ((S.due key now).expire key when_ now) (.bool (Je (S.due key now).L key).isSome)):=by
 have hslot:=hid (Jex hS hG hX (by omega) key hk now)
 have hev2:=Jhi S key now;generalize S.due key now=S' at hslot hev2⊢;have hev3:S'.ev.length<=4398046511104:=by omega
 clear hS hX hev hev2;go_enter Tryz.func89,Tryz.ntmps89;go_wp2_with fail;refine hslot.out.mono ?_;rintro e w1 hP;cases hP with
 |no l' hn he hX1 S1=>
  subst he;have hdone:Hid (Jp w0 r sb (S'.expire key when_ now) (.bool (Je S'.L key).isSome) (.returned (.bool false)) w1):=by
   have e:S'.expire key when_ now=S':=by simp[St.expire,hn]
   rw[e,hn];exact⟨rfl,l',hX1,S1⟩
  clear hslot hn hX1 S1 hev3;go_wp2_with fail;go_ret;exact hdone.out
 |yes m c s hok hf hc hck hs hi hl he S1=>
  subst he;by_cases hle:when_<=now
  ·have e:S'.expire key when_ now=S'.gone key 2:=by simp[St.expire,hl,hle]
   have hgone:=hid (Jag S1 hG ⟨m,rfl,hok,hf⟩ hev3 key hk 2);replace e:=hid e;clear S1 hok hf hc hck hs hi hslot hl hev3;go_wp2_with fail;refine hgone.out.mono ?_;intro e1 w2 hP
   obtain⟨rfl,h2⟩:=hP
   replace h2:=hid h2;clear hgone;go_wp2_with fail;go_ret;rw[e.out];exact⟨rfl,h2.out⟩
  ·have e:S'.expire key when_ now={S' with D:=J2q S'.D key (J5p when_),ev:=S'.ev++[(1,key)]}:=by simp[St.expire,hl,hle]
   have c4:=(K1 S1.own).c4;have hD:S'.D.length<1099511627776:=by have:=hf.fewD;have:=hf.few;omega
   have hput:=hid (Jss m.xl m.xb S'.D key (J5p when_) w1 hok.exp hD (by unfold J5p;omega) (SM.ownX S1.own))
   have hst:Hid (∀w' xl',Kq xl' m.xb (J2q S'.D key (J5p when_))->J3 w1 m.xl w' xl'->∃l',Jh l' sb {S' with D:=J2q S'.D key (J5p when_)}/\J3 w0 [] w' (l'++r)):=fun w' xl' h1 h2=>
    ⟨_,⟨{m with xl:=xl'},rfl,⟨hok.tab,hok.rcn,h1,hok.slots,hok.free,hok.evs,hok.cells,hok.num,hok.holds,hok.all,hok.each,hok.few⟩,hf.ending hl _ S'.ev⟩,SM.stepX S1 h2⟩
   have hlast:Hid (∀w' l',Jh l' sb {S' with D:=J2q S'.D key (J5p when_),ev:=S'.ev++[(1,key)]}->J3 w0 [] w' (l'++r)->Jp w0 r sb (S'.expire key when_ now) (.bool (Je S'.L key).isSome) (.returned (.bool true)) w'):=fun w' l' h1 h2=>by rw[e,hl];exact⟨rfl,l',h1,h2⟩
   clear S1 hok hf hc hck hs hi hslot hl hD;replace e:=hid e;go_wp2_with fail;refine hput.out.mono ?_;rintro e1 w2 ⟨rfl,xl',hE,ST⟩;obtain⟨l2,hX2,S2⟩:=hst.out w2 xl' hE ST
   have htell:=hid (Jdc S2 hX2 hev3 1 key);clear hput hst hE ST hX2 S2 hev3;go_wp2_with fail;refine htell.out.mono ?_;rintro e2 w3 ⟨rfl,l3,hX3,S3⟩;have hdone:=hid (hlast.out w3 l3 hX3 S3);clear htell hX3 S3 hlast;go_wp2_with fail;go_ret;exact hdone.out
def J6k (budget:Int):St:=⟨[],[],[],(max 0 (min budget 1000000000000)).toNat⟩
theorem J3.born {w':World} {l':Hp} (h:J3 w0 l w r) (k:J3 w [] w' l'):J3 w0 l w' (l'++r):=
 h.part (a:=[]) (r:=r) (List.Perm.refl _) k
theorem Jrb (budget:Int):Fit (J6k budget):=
 ⟨List.nodup_nil,fun k hk=>by simp[J6k] at hk,List.nodup_nil,fun p hp=>by simp[J6k] at hp,by show(max 0 (min budget 1000000000000)).toNat<=_;omega,by show(0:Nat)<=_;omega⟩
theorem Jcf (budget:Int):Kx (J6k budget):=Nat.zero_le _
def Jdm (w0:World) (r:Hp) (budget:Int) (e:Ending) (w':World):Prop:=
 ∃sb l',e= .returned (ptr sb)/\Jh l' sb (J6k budget)/\J3 w0 [] w' (l'++r)
theorem Jzt {tl rl xl:Hp} {tb rb xb:Nat} {budget:Int} (hT:K5 tl tb [] 0) (hR:Ko rl rb []) (hE:Kq xl xb []) (hS:J3 w0 [] w (xl++(rl++(tl++r)))):
 Jdm w0 r budget (.returned (ptr w.heap.size)) (w.alloc (.cells #[ptr tb,.slice none 0 0,.slice none 0 0,ptr rb,ptr xb,.int .i64 0,.int .i64 (max 0 (min budget 1000000000000)),.slice none 0 0] 56)):=by
 have S1:=hS.alloc (.cells #[ptr tb,.slice none 0 0,.slice none 0 0,ptr rb,ptr xb,.int .i64 0,.int .i64 (max 0 (min budget 1000000000000)),.slice none 0 0] 56);let m:SM:=⟨tb,rb,xb,.slice none 0 0,.slice none 0 0,.slice none 0 0,tl,rl,xl,[],[],[],[],[],[],[]⟩
 have e:((max 0 (min budget 1000000000000)).toNat:Int)=max 0 (min budget 1000000000000):=by omega
 refine⟨w.heap.size,m.hp w.heap.size 0 (J6k budget).bud,rfl,⟨m,rfl,⟨hT,hR,hE,.nil,.nil,.nil,rfl,List.Perm.refl _,fun c hc=>by simp[m] at hc,List.Perm.refl _,fun s hs=>by simp[m] at hs,by show(0:Nat)<=_;omega⟩,Jrb budget⟩,S1.permR (J5 fun f=>?_)⟩
 rw[J1d];show _=f (w.heap.size,.cells #[ptr tb,.slice none 0 0,.slice none 0 0,ptr rb,ptr xb,.int .i64 (0:Nat),.int .i64 ((max 0 (min budget 1000000000000)).toNat:Nat),.slice none 0 0] 56 (0,0))+(tl.map f).sum+(rl.map f).sum+(xl.map f).sum+0+0+0+0+(r.map f).sum
 rw[e];simp only[SC];show f (w.heap.size,.cells #[ptr tb,.slice none 0 0,.slice none 0 0,ptr rb,ptr xb,.int .i64 (0:Nat),.int .i64 (max 0 (min budget 1000000000000)),.slice none 0 0] 56 (0,0))+_=_
 omega
theorem Jkz (hS:J3 w0 [] w r) (budget:Int):
 Calls Tryz.prog 7 #[.int .i64 budget] w (Jdm w0 r budget):=by
 have hnew:=hid (Jlk w);replace hS:=hid hS;go_enter Tryz.func7,Tryz.ntmps7;go_wp2_with fail;refine hnew.out.mono ?_;rintro e w1 ⟨tb,tl,rfl,hT,ST⟩;have S1:=hid (hS.out.born ST);replace hT:=hid hT;have hrn:=hid (Jum w1);clear hnew ST hS;go_wp2_with fail;refine hrn.out.mono ?_;rintro e w2 ⟨rb,rl,rfl,hR,SR⟩;have S2:=hid (S1.out.born SR);replace hR:=hid hR;have hen:=hid (Jjd w2);clear hrn SR S1;go_wp2_with fail;refine hen.out.mono ?_;rintro e w3 ⟨xb,xl,rfl,hE,SE⟩;have hdone:=hid (Jzt (budget:=budget) hT.out hR.out hE (S2.out.born SE));clear hen SE S2 hT hR hE;go_wp2_with fail;go_ret;exact hdone.out
@[go_sem] theorem Jrs (P:Program) (w:World) (a:Addr) (m:Mode) (k:FloatKind) (n):(store a (.float k n) m).run P w=stored P w a (.float k n) m:=run_store P w a _ m rfl
def J7 (kind:Int) (text:ByteArray) (n:Int) (list:Value):Value:=.agg #[.int .i64 kind,.string text,.int .i64 n,.float .f64 0,.bool false,list]
def Kr (w0:World) (r:Hp) (v:Value) (e:Ending) (w':World):Prop:=e= .returned v/\J3 w0 [] w' r
theorem J97 (hS:J3 w0 [] w r) (s:ByteArray):
 Calls Tryz.prog 84 #[.string s] w (Kr w0 r (J7 4 s 0 (.slice none 0 0))):=by
 have hS':=hid hS;clear hS;go_enter Tryz.func84,Tryz.ntmps84;go_wp2_with fail;refine bodyPost_ret (v:=J7 4 s 0 (.slice none 0 0)) (by simp[results,Tryz.results84,go_sem,J7, *]<;>rfl) rfl ?_
 exact⟨rfl,(hS'.out.alloc _).less (List.sublist_cons_self _ _)⟩
theorem J4z (hS:J3 w0 [] w r) (s:ByteArray):
 Calls Tryz.prog 22 #[.string s] w (Kr w0 r (J7 2 s 0 (.slice none 0 0))):=by
 have hS':=hid hS;clear hS;go_enter Tryz.func22,Tryz.ntmps22;go_wp2_with fail;refine bodyPost_ret (v:=J7 2 s 0 (.slice none 0 0)) (by simp[results,Tryz.results22,go_sem,J7, *]<;>rfl) rfl ?_
 exact⟨rfl,(hS'.out.alloc _).less (List.sublist_cons_self _ _)⟩
theorem J15 (hS:J3 w0 [] w r) (n:Int):
 Calls Tryz.prog 59 #[.int .i64 n] w (Kr w0 r (J7 3 ByteArray.empty n (.slice none 0 0))):=by
 have hS':=hid hS;clear hS;go_enter Tryz.func59,Tryz.ntmps59;go_wp2_with fail;refine bodyPost_ret (v:=J7 3 ByteArray.empty n (.slice none 0 0)) (by simp[results,Tryz.results59,go_sem,J7, *]<;>rfl) rfl ?_
 exact⟨rfl,(hS'.out.alloc _).less (List.sublist_cons_self _ _)⟩
theorem Jf7 (hS:J3 w0 [] w r):
 Calls Tryz.prog 82 #[] w (Kr w0 r (J7 6 ByteArray.empty 0 (.slice none 0 0))):=by
 have hS':=hid hS;clear hS;go_enter Tryz.func82,Tryz.ntmps82;go_wp2_with fail;refine bodyPost_ret (v:=J7 6 ByteArray.empty 0 (.slice none 0 0)) (by simp[results,Tryz.results82,go_sem,J7, *]<;>rfl) rfl ?_
 exact⟨rfl,(hS'.out.alloc _).less (List.sublist_cons_self _ _)⟩
theorem Jih (hS:J3 w0 [] w r):
 Calls Tryz.prog 63 #[] w (Kr w0 r (J7 1 ⟨#[79,75]⟩ 0 (.slice none 0 0))):=by
 have hS':=hid hS;clear hS;go_enter Tryz.func63,Tryz.ntmps63;go_wp2_with fail;refine bodyPost_ret (v:=J7 1 ⟨#[79,75]⟩ 0 (.slice none 0 0)) (by simp[results,Tryz.results63,go_sem,J7, *]<;>rfl) rfl ?_
 exact⟨rfl,(hS'.out.alloc _).less (List.sublist_cons_self _ _)⟩
def Jii (n:Int):Int:=if n= -9223372036854775808 then 0 else -n
def J5x (n:Int):Int:=if n= -9223372036854775808 then 12 else 0
theorem Jvt (w:World) (n:Int) (h1: -9223372036854775808<=n) (h2:n<=9223372036854775807):
 Calls Tryz.prog 95 #[.int .i64 n] w fun e w'=>e= .returned (.tuple #[.int .i64 (Jii n),.int .i64 (J5x n)])/\w=w':=by
 by_cases h:n= -9223372036854775808
 ·subst h
  go_enter Tryz.func95,Tryz.ntmps95;go_wp2_with fail;go_ret2;exact⟨rfl,rfl⟩
 ·have e1:Hid (Jii n= -n):=hid (by simp[Jii,h])
  have e2:Hid (J5x n=0):=hid (by simp[J5x,h])
  have h3: -9223372036854775808<= -n:=by omega
  have h4: -n<=9223372036854775807:=by omega
  have hb:(n== -9223372036854775808)=false:=by simpa using h
  go_enter Tryz.func95,Tryz.ntmps95;go_wp2_with fail;go_ret2;rw[e1.out,e2.out];exact⟨rfl,rfl⟩
theorem Jbv (hS:J3 w0 [] w r) (s:ByteArray):
 Calls Tryz.prog 88 #[.string s] w (Kr w0 r (J6 1 s (.slice none 0 0))):=by
 have hS':=hid hS;clear hS;go_enter Tryz.func88,Tryz.ntmps88;go_wp2_with fail;refine bodyPost_ret (v:=J6 1 s (.slice none 0 0)) (by simp[results,Tryz.results88,go_sem,J6, *]<;>rfl) rfl ?_
 exact⟨rfl,(hS'.out.alloc _).less (List.sublist_cons_self _ _)⟩
theorem J8w (hS:J3 w0 [] w r) (s:ByteArray):
 Calls Tryz.prog 151 #[.string s] w (Kr w0 r (J6 1 s (.slice none 0 0))):=by
 have hS':=hid hS;clear hS;go_enter Tryz.func151,Tryz.ntmps151;go_wp2_with fail;refine bodyPost_ret (v:=J6 1 s (.slice none 0 0)) (by simp[results,Tryz.results151,go_sem,J6, *]<;>rfl) rfl ?_
 exact⟨rfl,(hS'.out.alloc _).less (List.sublist_cons_self _ _)⟩
def Jx (e:Int):ByteArray:=
 if e=11 then⟨#[69,82,82,32,118,97,108,117,101,32,105,115,32,110,111,116,32,97,110,32,105,110,116,101,103,101,114,32,111,114,32,111,117,116,32,111,102,32,114,97,110,103,101]⟩ else
 if e=92 then⟨#[69,82,82,32,118,97,108,117,101,32,105,115,32,110,111,116,32,97,110,32,105,110,116,101,103,101,114,32,111,114,32,111,117,116,32,111,102,32,114,97,110,103,101]⟩ else
 if e=111 then⟨#[69,82,82,32,118,97,108,117,101,32,105,115,32,110,111,116,32,97,110,32,105,110,116,101,103,101,114,32,111,114,32,111,117,116,32,111,102,32,114,97,110,103,101]⟩ else
 if e=12 then⟨#[69,82,82,32,105,110,99,114,101,109,101,110,116,32,111,114,32,100,101,99,114,101,109,101,110,116,32,119,111,117,108,100,32,111,118,101,114,102,108,111,119]⟩ else
 if e=93 then⟨#[69,82,82,32,118,97,108,117,101,32,105,115,32,110,111,116,32,97,32,118,97,108,105,100,32,102,108,111,97,116]⟩ else
 if e=21 then⟨#[69,82,82,32,105,110,99,114,101,109,101,110,116,32,119,111,117,108,100,32,112,114,111,100,117,99,101,32,78,97,78,32,111,114,32,73,110,102,105,110,105,116,121]⟩ else
 if e=91 then⟨#[87,82,79,78,71,84,89,80,69,32,79,112,101,114,97,116,105,111,110,32,97,103,97,105,110,115,116,32,97,32,107,101,121,32,104,111,108,100,105,110,103,32,116,104,101,32,119,114,111,110,103,32,107,105,110,100,32,111,102,32,118,97,108,117,101]⟩ else
 if e=94 then⟨#[69,82,82,32,118,97,108,117,101,32,105,115,32,116,111,111,32,108,111,110,103]⟩ else
 if e=31 then⟨#[69,82,82,32,118,97,108,117,101,32,105,115,32,116,111,111,32,108,111,110,103]⟩ else
 if e=121 then⟨#[79,79,77,32,99,111,109,109,97,110,100,32,110,111,116,32,97,108,108,111,119,101,100,32,119,104,101,110,32,117,115,101,100,32,109,101,109,111,114,121,32,105,115,32,102,117,108,108]⟩ else
 if e=131 then⟨#[69,82,82,32,115,121,110,116,97,120,32,101,114,114,111,114]⟩ else
 if e=132 then⟨#[69,82,82,32,111,112,116,105,111,110,115,32,100,111,32,110,111,116,32,103,111,32,116,111,103,101,116,104,101,114]⟩ else
 ByteArray.empty
def K2 (e:Int):Prop:=e=11\/e=92\/e=111\/e=12\/e=93\/e=21\/e=91\/e=94\/e=31\/e=121\/e=131\/e=132
theorem Jxc (w:World):Calls Tryz.prog 108 #[.int .i64 11] w fun x w'=>x= .returned (.string (Jx 11))/\w=w':=by
 go_enter Tryz.func108,Tryz.ntmps108;go_wp2_with fail;go_ret;exact⟨rfl,rfl⟩
theorem Jxh (w:World):Calls Tryz.prog 108 #[.int .i64 92] w fun x w'=>x= .returned (.string (Jx 92))/\w=w':=by
 go_enter Tryz.func108,Tryz.ntmps108;go_wp2_with fail;go_ret;exact⟨rfl,rfl⟩
theorem Jvo (w:World):Calls Tryz.prog 108 #[.int .i64 111] w fun x w'=>x= .returned (.string (Jx 111))/\w=w':=by
 go_enter Tryz.func108,Tryz.ntmps108;go_wp2_with fail;go_ret;exact⟨rfl,rfl⟩
theorem Jxd (w:World):Calls Tryz.prog 108 #[.int .i64 12] w fun x w'=>x= .returned (.string (Jx 12))/\w=w':=by
 go_enter Tryz.func108,Tryz.ntmps108;go_wp2_with fail;go_ret;exact⟨rfl,rfl⟩
theorem Jxi (w:World):Calls Tryz.prog 108 #[.int .i64 93] w fun x w'=>x= .returned (.string (Jx 93))/\w=w':=by
 go_enter Tryz.func108,Tryz.ntmps108;go_wp2_with fail;go_ret;exact⟨rfl,rfl⟩
theorem Jxe (w:World):Calls Tryz.prog 108 #[.int .i64 21] w fun x w'=>x= .returned (.string (Jx 21))/\w=w':=by
 go_enter Tryz.func108,Tryz.ntmps108;go_wp2_with fail;go_ret;exact⟨rfl,rfl⟩
theorem Jxg (w:World):Calls Tryz.prog 108 #[.int .i64 91] w fun x w'=>x= .returned (.string (Jx 91))/\w=w':=by
 go_enter Tryz.func108,Tryz.ntmps108;go_wp2_with fail;go_ret;exact⟨rfl,rfl⟩
theorem Jxj (w:World):Calls Tryz.prog 108 #[.int .i64 94] w fun x w'=>x= .returned (.string (Jx 94))/\w=w':=by
 go_enter Tryz.func108,Tryz.ntmps108;go_wp2_with fail;go_ret;exact⟨rfl,rfl⟩
theorem Jxf (w:World):Calls Tryz.prog 108 #[.int .i64 31] w fun x w'=>x= .returned (.string (Jx 31))/\w=w':=by
 go_enter Tryz.func108,Tryz.ntmps108;go_wp2_with fail;go_ret;exact⟨rfl,rfl⟩
theorem Jvp (w:World):Calls Tryz.prog 108 #[.int .i64 121] w fun x w'=>x= .returned (.string (Jx 121))/\w=w':=by
 go_enter Tryz.func108,Tryz.ntmps108;go_wp2_with fail;go_ret;exact⟨rfl,rfl⟩
theorem Jvq (w:World):Calls Tryz.prog 108 #[.int .i64 131] w fun x w'=>x= .returned (.string (Jx 131))/\w=w':=by
 go_enter Tryz.func108,Tryz.ntmps108;go_wp2_with fail;go_ret;exact⟨rfl,rfl⟩
theorem Jvr (w:World):Calls Tryz.prog 108 #[.int .i64 132] w fun x w'=>x= .returned (.string (Jx 132))/\w=w':=by
 go_enter Tryz.func108,Tryz.ntmps108;go_wp2_with fail;go_ret;exact⟨rfl,rfl⟩
theorem Jf8 (w:World) (e:Int) (h:K2 e):Calls Tryz.prog 108 #[.int .i64 e] w fun x w'=>x= .returned (.string (Jx e))/\w=w':=by
 rcases h with rfl|rfl|rfl|rfl|rfl|rfl|rfl|rfl|rfl|rfl|rfl|rfl
 ·exact Jxc w
 ·exact Jxh w
 ·exact Jvo w
 ·exact Jxd w
 ·exact Jxi w
 ·exact Jxe w
 ·exact Jxg w
 ·exact Jxj w
 ·exact Jxf w
 ·exact Jvp w
 ·exact Jvq w
 ·exact Jvr w
theorem J4v (hS:J3 w0 [] w r) (c:Int) (h:K2 c):
 Calls Tryz.prog 51 #[.int .i64 c] w (Kr w0 r (J7 2 (Jx c) 0 (.slice none 0 0))):=by
 have S1:=(hS.alloc (.cells #[.int .i64 0,.string ByteArray.empty,.int .i64 0,.float .f64 0,.bool false,.slice none 0 0] 34));have herr:=hid (Jf8 (w.alloc (.cells #[.int .i64 0,.string ByteArray.empty,.int .i64 0,.float .f64 0,.bool false,.slice none 0 0] 34)) c h);have hfail:=hid (J4z S1 (Jx c));clear hS S1 h;generalize Jx c=t at herr hfail⊢;go_enter Tryz.func51,Tryz.ntmps51;go_wp2_with fail;refine herr.out.mono ?_;rintro e w1 ⟨rfl,rfl⟩;clear herr;go_wp2_with fail;refine hfail.out.mono ?_;rintro e w1 ⟨rfl,S2⟩;generalize w.heap.size=b at S2⊢;have hb:=S2.own.head;obtain⟨c0,hc0⟩:∃x,w1.cell? ⟨b,0,none⟩=some x:=⟨_,J2 hb 0⟩
 obtain⟨c1,hc1⟩:∃x,w1.cell? ⟨b,1,none⟩=some x:=⟨_,J2 hb 1⟩
 obtain⟨c2,hc2⟩:∃x,w1.cell? ⟨b,2,none⟩=some x:=⟨_,J2 hb 2⟩
 obtain⟨c3,hc3⟩:∃x,w1.cell? ⟨b,3,none⟩=some x:=⟨_,J2 hb 3⟩
 obtain⟨c4,hc4⟩:∃x,w1.cell? ⟨b,4,none⟩=some x:=⟨_,J2 hb 4⟩
 obtain⟨c5,hc5⟩:∃x,w1.cell? ⟨b,5,none⟩=some x:=⟨_,J2 hb 5⟩
 have fz:∀j,w1.frozen? ⟨b,j,none⟩=false:=fun j=>Jg hb j
 have hlt:=Jf hb;have hlast:=hid (((((((S2.set 0 (.int .i64 2)).set 1 (.string t)).set 2 (.int .i64 0)).set 3 (.float .f64 0)).set 4 (.bool false)).set 5 (.slice none 0 0)).less (List.sublist_cons_self _ _));clear hb S2 hfail;unfold J7;go_wp2_with fail;refine bodyPost_ret (v:=J7 2 t 0 (.slice none 0 0)) (by simp[results,Tryz.results51,go_sem,J7, *]<;>rfl) rfl ?_
 exact⟨rfl,hlast.out⟩
theorem J23 (hS:J3 w0 [] w r) (c:Int) (h:K2 c):
 Calls Tryz.prog 83 #[.int .i64 c] w (Kr w0 r (J7 2 (Jx c) 0 (.slice none 0 0))):=by
 have S1:=(hS.alloc (.cells #[.int .i64 0,.string ByteArray.empty,.int .i64 0,.float .f64 0,.bool false,.slice none 0 0] 34));have herr:=hid (Jf8 (w.alloc (.cells #[.int .i64 0,.string ByteArray.empty,.int .i64 0,.float .f64 0,.bool false,.slice none 0 0] 34)) c h);have hfail:=hid (J4z S1 (Jx c));clear hS S1 h;generalize Jx c=t at herr hfail⊢;go_enter Tryz.func83,Tryz.ntmps83;go_wp2_with fail;refine herr.out.mono ?_;rintro e w1 ⟨rfl,rfl⟩;clear herr;go_wp2_with fail;refine hfail.out.mono ?_;rintro e w1 ⟨rfl,S2⟩;generalize w.heap.size=b at S2⊢;have hb:=S2.own.head;obtain⟨c0,hc0⟩:∃x,w1.cell? ⟨b,0,none⟩=some x:=⟨_,J2 hb 0⟩
 obtain⟨c1,hc1⟩:∃x,w1.cell? ⟨b,1,none⟩=some x:=⟨_,J2 hb 1⟩
 obtain⟨c2,hc2⟩:∃x,w1.cell? ⟨b,2,none⟩=some x:=⟨_,J2 hb 2⟩
 obtain⟨c3,hc3⟩:∃x,w1.cell? ⟨b,3,none⟩=some x:=⟨_,J2 hb 3⟩
 obtain⟨c4,hc4⟩:∃x,w1.cell? ⟨b,4,none⟩=some x:=⟨_,J2 hb 4⟩
 obtain⟨c5,hc5⟩:∃x,w1.cell? ⟨b,5,none⟩=some x:=⟨_,J2 hb 5⟩
 have fz:∀j,w1.frozen? ⟨b,j,none⟩=false:=fun j=>Jg hb j
 have hlt:=Jf hb;have hlast:=hid (((((((S2.set 0 (.int .i64 2)).set 1 (.string t)).set 2 (.int .i64 0)).set 3 (.float .f64 0)).set 4 (.bool false)).set 5 (.slice none 0 0)).less (List.sublist_cons_self _ _));clear hb S2 hfail;unfold J7;go_wp2_with fail;refine bodyPost_ret (v:=J7 2 t 0 (.slice none 0 0)) (by simp[results,Tryz.results83,go_sem,J7, *]<;>rfl) rfl ?_
 exact⟨rfl,hlast.out⟩
def Jo3 (w0:World) (r:Hp) (v:Value) (c:Int) (e:Ending) (w':World):Prop:=e= .returned (.tuple #[v,.int .i64 c])/\J3 w0 [] w' r
theorem Jjt (hS:J3 w0 [] w r) (kind:Int) (hk:¬kind=2) (text s:ByteArray) (ht:text.size<=4096) (hs:s.size<=1099511627776) (hb:4096<text.size+s.size):
 Calls Tryz.prog 98 #[J6 kind text (.slice none 0 0),.string s] w (Jo3 w0 r (J6 kind text (.slice none 0 0)) 94):=by
 have S1:=hid (((hS.alloc (.cells #[.int .i64 kind,.string text,.slice none 0 0] 59)).alloc (.cells #[.int .i64 kind,.string text,.slice none 0 0] 59)).less ((List.sublist_cons_self _ _).trans (List.sublist_cons_self _ _)));have hk2:(kind==2)=false:=by simpa using hk
 have hb2:(4096:Int) - min (text.size:Int) 4096<(s.size:Int):=by omega
 clear hS;go_enter Tryz.func98,Tryz.ntmps98;unfold J6;go_wp2_with fail;refine bodyPost_ret (v:=.tuple #[J6 kind text (.slice none 0 0),.int .i64 94]) (by simp[results,Tryz.results98,go_sem,J6, *]<;>rfl) rfl ?_
 exact⟨rfl,S1.out⟩
theorem Je5 (hS:J3 w0 [] w r) (kind:Int) (hk:¬kind=2) (text s:ByteArray) (hb:text.size+s.size<=4096):
 Calls Tryz.prog 98 #[J6 kind text (.slice none 0 0),.string s] w (Jo3 w0 r (J6 1 (text++s) (.slice none 0 0)) 0):=by
 have S1:=(hS.alloc (.cells #[.int .i64 kind,.string text,.slice none 0 0] 59)).alloc (.cells #[.int .i64 0,.string ByteArray.empty,.slice none 0 0] 59);have hcall:=hid (J8w S1 (text++s));have hk2:(kind==2)=false:=by simpa using hk
 have hb2:¬(4096:Int) - min (text.size:Int) 4096<(s.size:Int):=by omega
 have ht:text.size<=4096:=by omega
 have hs:s.size<=4096:=by omega
 clear hS S1;go_enter Tryz.func98,Tryz.ntmps98;unfold J6;go_wp2_with fail;refine hcall.out.mono ?_;rintro e w1 ⟨rfl,S2⟩;clear hcall;rw[World.size_alloc] at S2;generalize w.heap.size+1=b at S2⊢;have hb:=S2.own.head;obtain⟨x0,x1,x2,fz⟩:=Jn hb
 have hlt:=Jf hb;have hlast:=hid ((((S2.set 0 (.int .i64 1)).set 1 (.string (text++s))).set 2 (.slice none 0 0)).less ((List.sublist_cons_self _ _).trans (List.sublist_cons_self _ _)));clear hb S2;unfold J6;go_wp2_with fail;refine bodyPost_ret (v:=.tuple #[J6 1 (text++s) (.slice none 0 0),.int .i64 0]) (by simp[results,Tryz.results98,go_sem,J6, *]<;>rfl) rfl ?_
 exact⟨rfl,hlast.out⟩
def Jd0 (w0:World) (r:Hp) (v:Value) (n c:Int) (e:Ending) (w':World):Prop:=e= .returned (.tuple #[v,.int .i64 n,.int .i64 c])/\J3 w0 [] w' r
theorem Jte (hS:J3 w0 [] w r) (hG:J17 w0) (text:ByteArray) (ht:text.size<=1099511627776) (hn:J2f text=none) (n:Int):
 Calls Tryz.prog 92 #[J6 1 text (.slice none 0 0),.int .i64 n] w (Jd0 w0 r (J6 1 text (.slice none 0 0)) 0 92):=by
 have S1:=(hS.alloc (.cells #[.int .i64 1,.string text,.slice none 0 0] 59)).alloc (.cells #[.int .i64 0,.string ByteArray.empty,.slice none 0 0] 59);rw[World.size_alloc] at S1;have hpar:=hid (J2u S1 hG text ht);have e1:J5w (J2f text)=11:=by rw[hn];rfl
 have e2:(J2f text).getD 0=0:=by rw[hn];rfl
 rw[e1,e2] at hpar;clear hS S1 e1 e2 hn;go_enter Tryz.func92,Tryz.ntmps92;unfold J6;go_wp2_with fail;refine hpar.out.mono ?_;rintro e w1 ⟨rfl,S2⟩;clear hpar;have hne:¬w.heap.size=w.heap.size+1:=by omega
 have hne2:¬w.heap.size+1=w.heap.size:=by omega
 have hb1:=S2.own.head;have hb0:=S2.own.tail.head;obtain⟨x0,x1,x2,fz⟩:=Jn hb0
 obtain⟨y0,y1,y2,fz1⟩:=Jn hb1
 have hlt:=Jf hb0;have hlt1:=Jf hb1;have hlast:=hid ((((S2.set 0 (.int .i64 1)).set 1 (.string text)).set 2 (.slice none 0 0)).less ((List.sublist_cons_self _ _).trans (List.sublist_cons_self _ _)));clear hb0 hb1 S2;go_wp2_with fail;refine bodyPost_ret (v:=.tuple #[J6 1 text (.slice none 0 0),.int .i64 0,.int .i64 92]) (by simp[results,Tryz.results92,go_sem,J6, *]<;>rfl) rfl ?_
 exact⟨rfl,hlast.out⟩
theorem J3q {s:ByteArray} {m:Int} (h:J2f s=some m): -9223372036854775808<=m/\m<=9223372036854775807:=by
 unfold J2f at h;split at h
 ·rename_i v hp
  have hb:=Lib.parseIntB_bounds hp;split at h
  ·simp only[Option.some.injEq] at h
   subst h;constructor<;>simp at hb<;>omega
  ·exact absurd h (by simp)
 ·exact absurd h (by simp)
theorem Jqn (hS:J3 w0 [] w r) (hG:J17 w0) (text:ByteArray) (ht:text.size<=1099511627776) (m:Int) (hn:J2f text=some m) (n:Int) (hn1: -9223372036854775808<=n/\n<=9223372036854775807) (ho:J3d m n=none):
 Calls Tryz.prog 92 #[J6 1 text (.slice none 0 0),.int .i64 n] w (Jd0 w0 r (J6 1 text (.slice none 0 0)) 0 12):=by
 have S1:=(hS.alloc (.cells #[.int .i64 1,.string text,.slice none 0 0] 59)).alloc (.cells #[.int .i64 0,.string ByteArray.empty,.slice none 0 0] 59);rw[World.size_alloc] at S1;have hpar:=hid (J2u S1 hG text ht);have e1:J5w (J2f text)=0:=by rw[hn];rfl
 have e2:(J2f text).getD 0=m:=by rw[hn];rfl
 rw[e1,e2] at hpar;have hadd:∀w',Hid _:=fun w'=>hid (J8h m n w' (J3q hn) hn1)
 have e3:Jcp (J3d m n)=12:=by rw[ho];rfl
 have e4:(J3d m n).getD 0=0:=by rw[ho];rfl
 rw[e3,e4] at hadd;clear e3 e4 ho hn1;clear hS S1 e1 e2 hn;go_enter Tryz.func92,Tryz.ntmps92;unfold J6;go_wp2_with fail;refine hpar.out.mono ?_;rintro e w1 ⟨rfl,S2⟩;clear hpar;have hne:¬w.heap.size=w.heap.size+1:=by omega
 have hne2:¬w.heap.size+1=w.heap.size:=by omega
 have hb1:=S2.own.head;have hb0:=S2.own.tail.head;obtain⟨x0,x1,x2,fz⟩:=Jn hb0
 obtain⟨y0,y1,y2,fz1⟩:=Jn hb1
 have hlt:=Jf hb0;have hlt1:=Jf hb1;have hlast:=hid ((((S2.set 0 (.int .i64 1)).set 1 (.string text)).set 2 (.slice none 0 0)).less ((List.sublist_cons_self _ _).trans (List.sublist_cons_self _ _)));clear hb0 hb1 S2;go_wp2_with fail;refine(hadd w1).out.mono ?_
 rintro e w2 ⟨rfl,rfl⟩;clear hadd;go_wp2_with fail;refine bodyPost_ret (v:=.tuple #[J6 1 text (.slice none 0 0),.int .i64 0,.int .i64 12]) (by simp[results,Tryz.results92,go_sem,J6, *]<;>rfl) rfl ?_
 exact⟨rfl,hlast.out⟩
theorem Jtf (hS:J3 w0 [] w r) (hG:J17 w0) (text:ByteArray) (ht:text.size<=1099511627776) (m:Int) (hn:J2f text=some m) (n:Int) (hn1: -9223372036854775808<=n/\n<=9223372036854775807) (k:Int) (ho:J3d m n=some k):
 Calls Tryz.prog 92 #[J6 1 text (.slice none 0 0),.int .i64 n] w (Jd0 w0 r (J6 1 (J6s k) (.slice none 0 0)) k 0):=by
 have S1:=(hS.alloc (.cells #[.int .i64 1,.string text,.slice none 0 0] 59)).alloc (.cells #[.int .i64 0,.string ByteArray.empty,.slice none 0 0] 59);rw[World.size_alloc] at S1;have hpar:=hid (J2u S1 hG text ht);have e1:J5w (J2f text)=0:=by rw[hn];rfl
 have e2:(J2f text).getD 0=m:=by rw[hn];rfl
 rw[e1,e2] at hpar;have hadd:∀w',Hid _:=fun w'=>hid (J8h m n w' (J3q hn) hn1)
 have e3:Jcp (J3d m n)=0:=by rw[ho];rfl
 have e4:(J3d m n).getD 0=k:=by rw[ho];rfl
 rw[e3,e4] at hadd;have hk: -9223372036854775808<=k/\k<=9223372036854775807:=by
  unfold J3d at ho;split at ho
  ·rename_i hh;simp only[Option.some.injEq] at ho;omega
  ·exact absurd ho (by simp)
 obtain⟨hk1,hk2⟩:=hk
 clear e3 e4 ho hn1;clear hS S1 e1 e2 hn;go_enter Tryz.func92,Tryz.ntmps92;unfold J6;go_wp2_with fail;refine hpar.out.mono ?_;rintro e w1 ⟨rfl,S2⟩;clear hpar;have hlt0:=Jf S2.own.tail.head;have htx:=hid (J99 S2 hG k hk1 hk2);clear S2;go_wp2_with fail;refine(hadd w1).out.mono ?_
 rintro e w2 ⟨rfl,rfl⟩;clear hadd;go_wp2_with fail;refine htx.out.mono ?_;rintro e w3 ⟨rfl,S3⟩;have hit:=hid (J8w S3 (J6s k));clear htx S3 hlt0;go_wp2_with fail;refine hit.out.mono ?_;rintro e w4 ⟨rfl,S4⟩;clear hit;have hb1:=S4.own.head;obtain⟨y0,y1,y2,fz1⟩:=Jn hb1
 have hlt1:=Jf hb1;have hlast:=hid ((((S4.set 0 (.int .i64 1)).set 1 (.string (J6s k))).set 2 (.slice none 0 0)).less ((List.sublist_cons_self _ _).trans (List.sublist_cons_self _ _)));clear hb1 S4;unfold J6;go_wp2_with fail;refine bodyPost_ret (v:=.tuple #[J6 1 (J6s k) (.slice none 0 0),.int .i64 k,.int .i64 0]) (by simp[results,Tryz.results92,go_sem,J6, *]<;>rfl) rfl ?_
 exact⟨rfl,hlast.out⟩
theorem Jtd (hS:J3 w0 [] w r) (hG:J17 w0) (n:Int) (hn1: -9223372036854775808<=n/\n<=9223372036854775807):
 Calls Tryz.prog 92 #[J6 0 ByteArray.empty (.slice none 0 0),.int .i64 n] w (Jd0 w0 r (J6 1 (J6s n) (.slice none 0 0)) n 0):=by
 have S1:=(hS.alloc (.cells #[.int .i64 0,.string ByteArray.empty,.slice none 0 0] 59)).alloc (.cells #[.int .i64 0,.string ByteArray.empty,.slice none 0 0] 59);have hadd:∀w',Hid _:=fun w'=>hid (J8h 0 n w' (by omega) hn1)
 have ho:J3d 0 n=some n:=by unfold J3d;rw[if_pos (by omega)];simp
 have e3:Jcp (J3d 0 n)=0:=by rw[ho];rfl
 have e4:(J3d 0 n).getD 0=n:=by rw[ho];rfl
 rw[e3,e4] at hadd;have htx:=hid (J99 S1 hG n hn1.1 hn1.2);clear hS S1 e3 e4 ho hn1;go_enter Tryz.func92,Tryz.ntmps92;unfold J6;go_wp2_with fail;refine(hadd _).out.mono ?_
 rintro e w2 ⟨rfl,rfl⟩;clear hadd;go_wp2_with fail;refine htx.out.mono ?_;rintro e w3 ⟨rfl,S3⟩;have hit:=hid (J8w S3 (J6s n));clear htx S3;go_wp2_with fail;refine hit.out.mono ?_;rintro e w4 ⟨rfl,S4⟩;rw[World.size_alloc] at S4;clear hit;have hb1:=S4.own.head;obtain⟨y0,y1,y2,fz1⟩:=Jn hb1
 have hlt1:=Jf hb1;have hlast:=hid ((((S4.set 0 (.int .i64 1)).set 1 (.string (J6s n))).set 2 (.slice none 0 0)).less ((List.sublist_cons_self _ _).trans (List.sublist_cons_self _ _)));clear hb1 S4;unfold J6;go_wp2_with fail;refine bodyPost_ret (v:=.tuple #[J6 1 (J6s n) (.slice none 0 0),.int .i64 n,.int .i64 0]) (by simp[results,Tryz.results92,go_sem,J6, *]<;>rfl) rfl ?_
 exact⟨rfl,hlast.out⟩
structure Js7 (w:World) (b:Nat):Prop where
 c0:∃x,w.cell? ⟨b,0,none⟩=some x
 c1:∃x,w.cell? ⟨b,1,none⟩=some x
 c2:∃x,w.cell? ⟨b,2,none⟩=some x
 c3:∃x,w.cell? ⟨b,3,none⟩=some x
 c4:∃x,w.cell? ⟨b,4,none⟩=some x
 c5:∃x,w.cell? ⟨b,5,none⟩=some x
 fz:∀j,w.frozen? ⟨b,j,none⟩=false
 lt:b<w.heap.size
theorem J0d {b:Nat} {o0 o1 o2 o3 o4 o5:Value} (h:Own w ((b,.cells #[o0,o1,o2,o3,o4,o5] 34 (0,0))::r)):Js7 w b:=
 ⟨⟨_,J2 h.head 0⟩,⟨_,J2 h.head 1⟩,⟨_,J2 h.head 2⟩,⟨_,J2 h.head 3⟩,⟨_,J2 h.head 4⟩,⟨_,J2 h.head 5⟩,fun j=>Jg h.head j,Jf h.head⟩
theorem Jf2 (hS:J3 w0 [] w r) (kind:Int) (text:ByteArray) (v:Value):
 Calls Tryz.prog 38 #[J6 kind text v,.bool false] w (Kr w0 r (J7 6 ByteArray.empty 0 (.slice none 0 0))):=by
 have S1:=(hS.alloc (.cells #[.int .i64 kind,.string text,v] 59)).alloc (.cells #[.int .i64 0,.string ByteArray.empty,.int .i64 0,.float .f64 0,.bool false,.slice none 0 0] 34);rw[World.size_alloc] at S1;have hnil:=hid (Jf7 S1);clear hS S1;go_enter Tryz.func38,Tryz.ntmps38;unfold J6;go_wp2_with fail;refine hnil.out.mono ?_;rintro e w1 ⟨rfl,S2⟩;obtain⟨⟨c0,hc0⟩,⟨c1,hc1⟩,⟨c2,hc2⟩,⟨c3,hc3⟩,⟨c4,hc4⟩,⟨c5,hc5⟩,fz,hlt⟩:=J0d S2.own
 have hlast:=hid (((((((S2.set 0 (.int .i64 6)).set 1 (.string ByteArray.empty)).set 2 (.int .i64 0)).set 3 (.float .f64 0)).set 4 (.bool false)).set 5 (.slice none 0 0)).less ((List.sublist_cons_self _ _).trans (List.sublist_cons_self _ _)));clear S2 hnil;unfold J7;go_wp2_with fail;refine bodyPost_ret (v:=J7 6 ByteArray.empty 0 (.slice none 0 0)) (by simp[results,Tryz.results38,go_sem,J7, *]<;>rfl) rfl ?_
 exact⟨rfl,hlast.out⟩
theorem Js1 (hS:J3 w0 [] w r) (text:ByteArray) (v:Value):
 Calls Tryz.prog 38 #[J6 2 text v,.bool true] w (Kr w0 r (J7 2 (Jx 91) 0 (.slice none 0 0))):=by
 have S1:=(hS.alloc (.cells #[.int .i64 2,.string text,v] 59)).alloc (.cells #[.int .i64 0,.string ByteArray.empty,.int .i64 0,.float .f64 0,.bool false,.slice none 0 0] 34);rw[World.size_alloc] at S1;have hnil:=hid (J23 S1 91 (by unfold K2;omega))
 clear hS S1;generalize Jx 91=t at hnil⊢;go_enter Tryz.func38,Tryz.ntmps38;unfold J6;go_wp2_with fail;refine hnil.out.mono ?_;rintro e w1 ⟨rfl,S2⟩;obtain⟨⟨c0,hc0⟩,⟨c1,hc1⟩,⟨c2,hc2⟩,⟨c3,hc3⟩,⟨c4,hc4⟩,⟨c5,hc5⟩,fz,hlt⟩:=J0d S2.own
 have hlast:=hid (((((((S2.set 0 (.int .i64 2)).set 1 (.string (t))).set 2 (.int .i64 0)).set 3 (.float .f64 0)).set 4 (.bool false)).set 5 (.slice none 0 0)).less ((List.sublist_cons_self _ _).trans (List.sublist_cons_self _ _)));clear S2 hnil;unfold J7;go_wp2_with fail;refine bodyPost_ret (v:=J7 2 (t) 0 (.slice none 0 0)) (by simp[results,Tryz.results38,go_sem,J7, *]<;>rfl) rfl ?_
 exact⟨rfl,hlast.out⟩
theorem Jgm (hS:J3 w0 [] w r) (kind:Int) (text:ByteArray) (v:Value) (hk:¬kind=2):
 Calls Tryz.prog 38 #[J6 kind text v,.bool true] w (Kr w0 r (J7 4 text 0 (.slice none 0 0))):=by
 have S1:=(hS.alloc (.cells #[.int .i64 kind,.string text,v] 59)).alloc (.cells #[.int .i64 0,.string ByteArray.empty,.int .i64 0,.float .f64 0,.bool false,.slice none 0 0] 34);rw[World.size_alloc] at S1;have hnil:=hid (J97 S1 text);have hk2:(kind==2)=false:=by simpa using hk
 clear hS S1;go_enter Tryz.func38,Tryz.ntmps38;unfold J6;go_wp2_with fail;refine hnil.out.mono ?_;rintro e w1 ⟨rfl,S2⟩;obtain⟨⟨c0,hc0⟩,⟨c1,hc1⟩,⟨c2,hc2⟩,⟨c3,hc3⟩,⟨c4,hc4⟩,⟨c5,hc5⟩,fz,hlt⟩:=J0d S2.own
 have hlast:=hid (((((((S2.set 0 (.int .i64 4)).set 1 (.string text)).set 2 (.int .i64 0)).set 3 (.float .f64 0)).set 4 (.bool false)).set 5 (.slice none 0 0)).less ((List.sublist_cons_self _ _).trans (List.sublist_cons_self _ _)));clear S2 hnil;unfold J7;go_wp2_with fail;refine bodyPost_ret (v:=J7 4 text 0 (.slice none 0 0)) (by simp[results,Tryz.results38,go_sem,J7, *]<;>rfl) rfl ?_
 exact⟨rfl,hlast.out⟩
end Go.Proofs.YtncbcaabanoeoaaGreatDoor
