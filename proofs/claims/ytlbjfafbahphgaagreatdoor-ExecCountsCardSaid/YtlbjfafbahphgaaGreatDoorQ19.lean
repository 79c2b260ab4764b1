/-
(*Store).Ttl, Events.
-/
import Derived.Test.YtlbjfafbahphgaaGreatDoorQ18
set_option linter.unusedVariables false
set_option linter.unusedSimpArgs false
set_option maxRecDepth 100000
set_option maxHeartbeats 8000000
namespace Go.Proofs.YtlbjfafbahphgaaGreatDoor
open Go Go.RowKit
variable {S:St}{w0 w:World}{l r:Hp}{sb:Nat}
def St.persist (S:St) (key:ByteArray):St:={S with D:=mdel S.D key,ev:=if(mlook S.D key).isSome then S.ev++[(1,key)] else S.ev}
theorem Fit.undue (h:Fit S) (key:ByteArray) (ev:List (Int×ByteArray)):Fit {S with D:=mdel S.D key,ev:=ev}:=
 ⟨h.nd,fun k hk=>h.ends k (mdel_fst.1 hk).1,mdel_nodup h.dnd,h.key,h.bud,h.le⟩
def St.ttl (S:St) (key:ByteArray) (now:Int):Int:=match mlook S.L key with
 |none=> -2
 |some _=>match mlook S.D key with
  |none=> -1
  |some t=>t - now
theorem ttl_any (hS:Step w0 [] w (l++r)) (hG:Glob w0) (hX:IsStore l sb S) (hev:S.ev.length<=2199023255552) (key:ByteArray) (hk:key.size<=1099511627776) (now:Int)
 (hr:∀t,mlook (S.due key now).D key=some t-> -9223372036854775808<=t - now/\t - now<=9223372036854775807):
  Calls Tryz.prog 61 #[ptr sb,.string key,.int .i64 now] w (StPost w0 r sb (S.due key now) (.int .i64 ((S.due key now).ttl key now))):=by
  have hslot:=hid (slot_any hS hG hX (by omega) key hk now)
  generalize S.due key now=S' at hslot hr⊢
  clear hS hX hev
  go_enter Tryz.func61,Tryz.ntmps61
  go_wp2_with fail
  refine hslot.out.mono ?_
  rintro e w1 hP
  cases hP with
  |no l' hn he hX1 S1=>
   subst he
   have hdone:Hid (StPost w0 r sb S' (.int .i64 (S'.ttl key now)) (.returned (.int .i64 (-2))) w1):=by
    have e:S'.ttl key now= -2:=by simp[St.ttl,hn]
    rw[e];exact⟨rfl,l',hX1,S1⟩
   clear hslot hn hX1 S1 hr
   go_wp2_with fail
   go_ret
   exact hdone.out
  |yes m c s hok hf hc hck hs hi hl he S1=>
   subst he
   have c4:=(stCells S1.own).c4
   have hget:=hid (eget_any m.xl m.xb S'.D key w1 hok.exp (SM.ownX S1.own))
   have hst:Hid (∃l',IsStore l' sb S'/\Step w0 [] w1 (l'++r)):=⟨_,⟨m,rfl,hok,hf⟩,S1⟩
   clear S1 hok hf hc hck hs hi hslot
   cases hd:mlook S'.D key with
   |none=>
    have hdone:Hid (StPost w0 r sb S' (.int .i64 (S'.ttl key now)) (.returned (.int .i64 (-1))) w1):=by
     have e:S'.ttl key now= -1:=by simp[St.ttl,hl,hd]
     rw[e];exact⟨rfl,hst⟩
    replace hd:=hid hd
    replace hl:=hid hl
    clear hr
    go_wp2_with fail
    refine hget.out.mono ?_
    rintro e w2 ⟨rfl,rfl⟩
    simp only[hd.out,Option.getD_none,Option.isSome_none]
    clear hget hst
    go_wp2_with fail
    go_ret
    exact hdone.out
   |some t=>
    have hdone:Hid (StPost w0 r sb S' (.int .i64 (S'.ttl key now)) (.returned (.int .i64 (t - now))) w1):=by
     have e:S'.ttl key now=t - now:=by simp[St.ttl,hl,hd]
     rw[e];exact⟨rfl,hst⟩
    obtain⟨hr1,hr2⟩:=hr t hd
    replace hd:=hid hd
    replace hl:=hid hl
    clear hr
    go_wp2_with fail
    refine hget.out.mono ?_
    rintro e w2 ⟨rfl,rfl⟩
    simp only[hd.out,Option.getD_some,Option.isSome_some]
    clear hget hst
    go_wp2_with fail
    go_ret
    exact hdone.out
def EventsPost (w0:World) (r:Hp) (sb:Nat) (S:St) (e:Ending) (w':World):Prop:=
 ∃v vl l',e= .returned v/\SliceHp 2 41 v S.ev.length (evCells S.ev) vl/\IsStore l' sb {S with ev:=[]}/\Step w0 [] w' (l'++(vl++r))
theorem SM.setEvs {n bud:Nat} {m:SM} (hS:Step w0 l w (m.hp sb n bud++r)):Step w0 l (w.setCell ⟨sb,7,none⟩ (.slice none 0 0)) ({m with vv:=.slice none 0 0,vhp:=[]}.hp sb n bud++(m.vhp++r)):=by
 have h:Step w0 l w ((sb,StObj m n bud)::(m.rest++r)):=hS
 refine(h.set 7 (.slice none 0 0)).permR (perm_by fun f=>?_)
 rw[hp_sums]
 simp only[SM.rest,List.map_append,List.sum_append,List.map_cons,List.sum_cons,List.map_nil,List.sum_nil]
 show f (sb,StObj {m with vv:=.slice none 0 0,vhp:=[]} n bud)+_=_
 omega
theorem events_any (hS:Step w0 [] w (l++r)) (hX:IsStore l sb S):
 Calls Tryz.prog 15 #[ptr sb] w (EventsPost w0 r sb S):=by
 obtain⟨m,rfl,hok,hf⟩:=hX
 have c7:=(stCells hS.own).c7
 have fz:=(stCells hS.own).fz
 have hlt:=block_lt hS.own.left.head
 have hevs:=hok.evs
 obtain⟨a,c,hv⟩:∃a c,m.vv= .slice a S.ev.length c:=by obtain⟨a,c,h,_⟩:=hevs.form;exact⟨a,c,h⟩
 have hdone:Hid (EventsPost w0 r sb S (.returned (.slice a S.ev.length c)) (w.setCell ⟨sb,7,none⟩ (.slice none 0 0))):=by
  refine⟨_,m.vhp,_,rfl,by rw[<-hv];exact hevs,⟨{m with vv:=.slice none 0 0,vhp:=[]},rfl,⟨hok.tab,hok.rcn,hok.exp,hok.slots,hok.free,.nil,hok.cells,hok.num,hok.holds,hok.all,hok.each,hok.few⟩,⟨hf.nd,hf.ends,hf.dnd,hf.key,hf.bud,hf.le⟩⟩,SM.setEvs hS⟩
 rw[hv] at c7
 clear hS hok hf hevs hv
 go_enter Tryz.func15,Tryz.ntmps15
 go_wp2_with fail
 go_ret
 exact hdone.out
abbrev capTime (t:Int):Int:=min t 4611686018427387904
def St.expire (S:St) (key:ByteArray) (when_ now:Int):St:=
 if(mlook S.L key).isSome then(if when_<=now then S.gone key 2 else {S with D:=mput S.D key (capTime when_),ev:=S.ev++[(1,key)]}) else S
theorem mput_fst {α:Type} {m:AL α} {k x:ByteArray} {v:α} (h:x∈(mput m k v).map Prod.fst):x∈m.map Prod.fst\/x=k:=by
 unfold mput at h
 split at h
 ·left
  have e:(mset m k v).map Prod.fst=m.map Prod.fst:=by
   unfold mset
   rw[List.map_map]
   refine List.map_congr_left fun p _=>?_
   simp only[Function.comp]
   split<;>simp_all
  rwa[e] at h
 ·simpa using h
theorem Fit.ending (h:Fit S) {key:ByteArray} {it:Itm} (hl:mlook S.L key=some it) (t:Int) (ev:List (Int×ByteArray)):Fit {S with D:=mput S.D key t,ev:=ev}:=
 ⟨h.nd,fun k hk=>by
  rcases mput_fst hk with hk|rfl
  ·exact h.ends k hk
  ·exact List.mem_map.2 ⟨_,mlook_some hl,rfl⟩,mput_keys h.dnd,h.key,h.bud,h.le⟩
theorem expire_any (hS:Step w0 [] w (l++r)) (hG:Glob w0) (hX:IsStore l sb S) (hev:S.ev.length<=2199023255552) (key:ByteArray) (hk:key.size<=1099511627776) (when_ now:Int) (hn0:0<=now) (hw:when_<=9223372036854775807):
 Calls Tryz.prog 90 #[ptr sb,.string key,.int .i64 when_,.int .i64 now] w (StPost w0 r sb ((S.due key now).expire key when_ now) (.bool (mlook (S.due key now).L key).isSome)):=by
 have hslot:=hid (slot_any hS hG hX (by omega) key hk now)
 have hev2:=due_ev S key now
 generalize S.due key now=S' at hslot hev2⊢
 have hev3:S'.ev.length<=4398046511104:=by omega
 clear hS hX hev hev2
 go_enter Tryz.func90,Tryz.ntmps90
 go_wp2_with fail
 refine hslot.out.mono ?_
 rintro e w1 hP
 cases hP with
 |no l' hn he hX1 S1=>
  subst he
  have hdone:Hid (StPost w0 r sb (S'.expire key when_ now) (.bool (mlook S'.L key).isSome) (.returned (.bool false)) w1):=by
   have e:S'.expire key when_ now=S':=by simp[St.expire,hn]
   rw[e,hn];exact⟨rfl,l',hX1,S1⟩
  clear hslot hn hX1 S1 hev3
  go_wp2_with fail
  go_ret
  exact hdone.out
 |yes m c s hok hf hc hck hs hi hl he S1=>
  subst he
  by_cases hle:when_<=now
  ·have e:S'.expire key when_ now=S'.gone key 2:=by simp[St.expire,hl,hle]
   have hgone:=hid (gone_any S1 hG ⟨m,rfl,hok,hf⟩ hev3 key hk 2)
   replace e:=hid e
   clear S1 hok hf hc hck hs hi hslot hl hev3
   go_wp2_with fail
   refine hgone.out.mono ?_
   intro e1 w2 hP
   obtain⟨rfl,h2⟩:=hP
   replace h2:=hid h2
   clear hgone
   go_wp2_with fail
   go_ret
   rw[e.out]
   exact⟨rfl,h2.out⟩
  ·have e:S'.expire key when_ now={S' with D:=mput S'.D key (capTime when_),ev:=S'.ev++[(1,key)]}:=by simp[St.expire,hl,hle]
   have c4:=(stCells S1.own).c4
   have hD:S'.D.length<1099511627776:=by have:=hf.fewD;have:=hf.few;omega
   have hput:=hid (eput_any m.xl m.xb S'.D key (capTime when_) w1 hok.exp hD (by unfold capTime;omega) (SM.ownX S1.own))
   have hst:Hid (∀w' xl',IsExpiry xl' m.xb (mput S'.D key (capTime when_))->Step w1 m.xl w' xl'->∃l',IsStore l' sb {S' with D:=mput S'.D key (capTime when_)}/\Step w0 [] w' (l'++r)):=fun w' xl' h1 h2=>
    ⟨_,⟨{m with xl:=xl'},rfl,⟨hok.tab,hok.rcn,h1,hok.slots,hok.free,hok.evs,hok.cells,hok.num,hok.holds,hok.all,hok.each,hok.few⟩,hf.ending hl _ S'.ev⟩,SM.stepX S1 h2⟩
   have hlast:Hid (∀w' l',IsStore l' sb {S' with D:=mput S'.D key (capTime when_),ev:=S'.ev++[(1,key)]}->Step w0 [] w' (l'++r)->StPost w0 r sb (S'.expire key when_ now) (.bool (mlook S'.L key).isSome) (.returned (.bool true)) w'):=fun w' l' h1 h2=>by rw[e,hl];exact⟨rfl,l',h1,h2⟩
   clear S1 hok hf hc hck hs hi hslot hl hD
   replace e:=hid e
   go_wp2_with fail
   refine hput.out.mono ?_
   rintro e1 w2 ⟨rfl,xl',hE,ST⟩
   obtain⟨l2,hX2,S2⟩:=hst.out w2 xl' hE ST
   have htell:=hid (tell_st S2 hX2 hev3 1 key)
   clear hput hst hE ST hX2 S2 hev3
   go_wp2_with fail
   refine htell.out.mono ?_
   rintro e2 w3 ⟨rfl,l3,hX3,S3⟩
   have hdone:=hid (hlast.out w3 l3 hX3 S3)
   clear htell hX3 S3 hlast
   go_wp2_with fail
   go_ret
   exact hdone.out
def newSt (budget:Int):St:=⟨[],[],[],(max 0 (min budget 1000000000000)).toNat⟩
theorem Step.born {w':World} {l':Hp} (h:Step w0 l w r) (k:Step w [] w' l'):Step w0 l w' (l'++r):=
 h.part (a:=[]) (r:=r) (List.Perm.refl _) k
theorem newSt_fit (budget:Int):Fit (newSt budget):=
 ⟨List.nodup_nil,fun k hk=>by simp[newSt] at hk,List.nodup_nil,fun p hp=>by simp[newSt] at hp,by show(max 0 (min budget 1000000000000)).toNat<=_;omega,by show(0:Nat)<=_;omega⟩
theorem newSt_tight (budget:Int):Tight (newSt budget):=Nat.zero_le _
def SNewPost (w0:World) (r:Hp) (budget:Int) (e:Ending) (w':World):Prop:=
 ∃sb l',e= .returned (ptr sb)/\IsStore l' sb (newSt budget)/\Step w0 [] w' (l'++r)
theorem newSM {tl rl xl:Hp} {tb rb xb:Nat} {budget:Int} (hT:IsTable tl tb [] 0) (hR:IsRecent rl rb []) (hE:IsExpiry xl xb []) (hS:Step w0 [] w (xl++(rl++(tl++r)))):
 SNewPost w0 r budget (.returned (ptr w.heap.size)) (w.alloc (.cells #[ptr tb,.slice none 0 0,.slice none 0 0,ptr rb,ptr xb,.int .i64 0,.int .i64 (max 0 (min budget 1000000000000)),.slice none 0 0] 56)):=by
 have S1:=hS.alloc (.cells #[ptr tb,.slice none 0 0,.slice none 0 0,ptr rb,ptr xb,.int .i64 0,.int .i64 (max 0 (min budget 1000000000000)),.slice none 0 0] 56)
 let m:SM:=⟨tb,rb,xb,.slice none 0 0,.slice none 0 0,.slice none 0 0,tl,rl,xl,[],[],[],[],[],[],[]⟩
 have e:((max 0 (min budget 1000000000000)).toNat:Int)=max 0 (min budget 1000000000000):=by omega
 refine⟨w.heap.size,m.hp w.heap.size 0 (newSt budget).bud,rfl,⟨m,rfl,⟨hT,hR,hE,.nil,.nil,.nil,rfl,List.Perm.refl _,fun c hc=>by simp[m] at hc,List.Perm.refl _,fun s hs=>by simp[m] at hs,by show(0:Nat)<=_;omega⟩,newSt_fit budget⟩,S1.permR (perm_by fun f=>?_)⟩
 rw[hp_sums]
 show _=f (w.heap.size,.cells #[ptr tb,.slice none 0 0,.slice none 0 0,ptr rb,ptr xb,.int .i64 (0:Nat),.int .i64 ((max 0 (min budget 1000000000000)).toNat:Nat),.slice none 0 0] 56 (0,0))+(tl.map f).sum+(rl.map f).sum+(xl.map f).sum+0+0+0+0+(r.map f).sum
 rw[e]
 simp only[SC]
 show f (w.heap.size,.cells #[ptr tb,.slice none 0 0,.slice none 0 0,ptr rb,ptr xb,.int .i64 (0:Nat),.int .i64 (max 0 (min budget 1000000000000)),.slice none 0 0] 56 (0,0))+_=_
 omega
theorem snew_any (hS:Step w0 [] w r) (budget:Int):
 Calls Tryz.prog 8 #[.int .i64 budget] w (SNewPost w0 r budget):=by
 have hnew:=hid (tnew_any w)
 replace hS:=hid hS
 go_enter Tryz.func8,Tryz.ntmps8
 go_wp2_with fail
 refine hnew.out.mono ?_
 rintro e w1 ⟨tb,tl,rfl,hT,ST⟩
 have S1:=hid (hS.out.born ST)
 replace hT:=hid hT
 have hrn:=hid (rnew_any w1)
 clear hnew ST hS
 go_wp2_with fail
 refine hrn.out.mono ?_
 rintro e w2 ⟨rb,rl,rfl,hR,SR⟩
 have S2:=hid (S1.out.born SR)
 replace hR:=hid hR
 have hen:=hid (enew_any w2)
 clear hrn SR S1
 go_wp2_with fail
 refine hen.out.mono ?_
 rintro e w3 ⟨xb,xl,rfl,hE,SE⟩
 have hdone:=hid (newSM (budget:=budget) hT.out hR.out hE (S2.out.born SE))
 clear hen SE S2 hT hR hE
 go_wp2_with fail
 go_ret
 exact hdone.out
@[go_sem] theorem run_store_float' (P:Program) (w:World) (a:Addr) (m:Mode) (k:FloatKind) (n):(store a (.float k n) m).run P w=stored P w a (.float k n) m:=run_store P w a _ m rfl
def ansVal (kind:Int) (text:ByteArray) (n:Int) (list:Value):Value:=.agg #[.int .i64 kind,.string text,.int .i64 n,.float .f64 0,.bool false,list]
def AnsPost (w0:World) (r:Hp) (v:Value) (e:Ending) (w':World):Prop:=e= .returned v/\Step w0 [] w' r
theorem vtext_any (hS:Step w0 [] w r) (s:ByteArray):
 Calls Tryz.prog 85 #[.string s] w (AnsPost w0 r (ansVal 4 s 0 (.slice none 0 0))):=by
 have hS':=hid hS
 clear hS
 go_enter Tryz.func85,Tryz.ntmps85
 go_wp2_with fail
 refine bodyPost_ret (v:=ansVal 4 s 0 (.slice none 0 0)) (by simp[results,Tryz.results85,go_sem,ansVal, *]<;>rfl) rfl ?_
 exact⟨rfl,(hS'.out.alloc _).less (List.sublist_cons_self _ _)⟩
theorem vfail_any (hS:Step w0 [] w r) (s:ByteArray):
 Calls Tryz.prog 23 #[.string s] w (AnsPost w0 r (ansVal 2 s 0 (.slice none 0 0))):=by
 have hS':=hid hS
 clear hS
 go_enter Tryz.func23,Tryz.ntmps23
 go_wp2_with fail
 refine bodyPost_ret (v:=ansVal 2 s 0 (.slice none 0 0)) (by simp[results,Tryz.results23,go_sem,ansVal, *]<;>rfl) rfl ?_
 exact⟨rfl,(hS'.out.alloc _).less (List.sublist_cons_self _ _)⟩
theorem vint_any (hS:Step w0 [] w r) (n:Int):
 Calls Tryz.prog 60 #[.int .i64 n] w (AnsPost w0 r (ansVal 3 ByteArray.empty n (.slice none 0 0))):=by
 have hS':=hid hS
 clear hS
 go_enter Tryz.func60,Tryz.ntmps60
 go_wp2_with fail
 refine bodyPost_ret (v:=ansVal 3 ByteArray.empty n (.slice none 0 0)) (by simp[results,Tryz.results60,go_sem,ansVal, *]<;>rfl) rfl ?_
 exact⟨rfl,(hS'.out.alloc _).less (List.sublist_cons_self _ _)⟩
theorem vnil_any (hS:Step w0 [] w r):
 Calls Tryz.prog 83 #[] w (AnsPost w0 r (ansVal 6 ByteArray.empty 0 (.slice none 0 0))):=by
 have hS':=hid hS
 clear hS
 go_enter Tryz.func83,Tryz.ntmps83
 go_wp2_with fail
 refine bodyPost_ret (v:=ansVal 6 ByteArray.empty 0 (.slice none 0 0)) (by simp[results,Tryz.results83,go_sem,ansVal, *]<;>rfl) rfl ?_
 exact⟨rfl,(hS'.out.alloc _).less (List.sublist_cons_self _ _)⟩
theorem vok_any (hS:Step w0 [] w r):
 Calls Tryz.prog 64 #[] w (AnsPost w0 r (ansVal 1 ⟨#[79,75]⟩ 0 (.slice none 0 0))):=by
 have hS':=hid hS
 clear hS
 go_enter Tryz.func64,Tryz.ntmps64
 go_wp2_with fail
 refine bodyPost_ret (v:=ansVal 1 ⟨#[79,75]⟩ 0 (.slice none 0 0)) (by simp[results,Tryz.results64,go_sem,ansVal, *]<;>rfl) rfl ?_
 exact⟨rfl,(hS'.out.alloc _).less (List.sublist_cons_self _ _)⟩
def wneg (n:Int):Int:=if n= -9223372036854775808 then 0 else -n
def wnegErr (n:Int):Int:=if n= -9223372036854775808 then 12 else 0
theorem wneg_any (w:World) (n:Int) (h1: -9223372036854775808<=n) (h2:n<=9223372036854775807):
 Calls Tryz.prog 96 #[.int .i64 n] w fun e w'=>e= .returned (.tuple #[.int .i64 (wneg n),.int .i64 (wnegErr n)])/\w=w':=by
 by_cases h:n= -9223372036854775808
 ·subst h
  go_enter Tryz.func96,Tryz.ntmps96
  go_wp2_with fail
  go_ret2
  exact⟨rfl,rfl⟩
 ·have e1:Hid (wneg n= -n):=hid (by simp[wneg,h])
  have e2:Hid (wnegErr n=0):=hid (by simp[wnegErr,h])
  have h3: -9223372036854775808<= -n:=by omega
  have h4: -n<=9223372036854775807:=by omega
  have hb:(n== -9223372036854775808)=false:=by simpa using h
  go_enter Tryz.func96,Tryz.ntmps96
  go_wp2_with fail
  go_ret2
  rw[e1.out,e2.out]
  exact⟨rfl,rfl⟩
theorem ttext_any (hS:Step w0 [] w r) (s:ByteArray):
 Calls Tryz.prog 89 #[.string s] w (AnsPost w0 r (itemVal 1 s (.slice none 0 0))):=by
 have hS':=hid hS
 clear hS
 go_enter Tryz.func89,Tryz.ntmps89
 go_wp2_with fail
 refine bodyPost_ret (v:=itemVal 1 s (.slice none 0 0)) (by simp[results,Tryz.results89,go_sem,itemVal, *]<;>rfl) rfl ?_
 exact⟨rfl,(hS'.out.alloc _).less (List.sublist_cons_self _ _)⟩
theorem itext_any (hS:Step w0 [] w r) (s:ByteArray):
 Calls Tryz.prog 152 #[.string s] w (AnsPost w0 r (itemVal 1 s (.slice none 0 0))):=by
 have hS':=hid hS
 clear hS
 go_enter Tryz.func152,Tryz.ntmps152
 go_wp2_with fail
 refine bodyPost_ret (v:=itemVal 1 s (.slice none 0 0)) (by simp[results,Tryz.results152,go_sem,itemVal, *]<;>rfl) rfl ?_
 exact⟨rfl,(hS'.out.alloc _).less (List.sublist_cons_self _ _)⟩
def errText (e:Int):ByteArray:=
 if e=11 then⟨#[69,82,82,32,118,97,108,117,101,32,105,115,32,110,111,116,32,97,110,32,105,110,116,101,103,101,114,32,111,114,32,111,117,116,32,111,102,32,114,97,110,103,101]⟩ else
 if e=92 then⟨#[69,82,82,32,118,97,108,117,101,32,105,115,32,110,111,116,32,97,110,32,105,110,116,101,103,101,114,32,111,114,32,111,117,116,32,111,102,32,114,97,110,103,101]⟩ else
 if e=111 then⟨#[69,82,82,32,118,97,108,117,101,32,105,115,32,110,111,116,32,97,110,32,105,110,116,101,103,101,114,32,111,114,32,111,117,116,32,111,102,32,114,97,110,103,101]⟩ else
 if e=12 then⟨#[69,82,82,32,105,110,99,114,101,109,101,110,116,32,111,114,32,100,101,99,114,101,109,101,110,116,32,119,111,117,108,100,32,111,118,101,114,102,108,111,119]⟩ else
 if e=93 then⟨#[69,82,82,32,118,97,108,117,101,32,105,115,32,110,111,116,32,97,32,118,97,108,105,100,32,102,108,111,97,116]⟩ else
 if e=21 then⟨#[69,82,82,32,105,110,99,114,101,109,101,110,116,32,119,111,117,108,100,32,112,114,111,100,117,99,101,32,78,97,78,32,111,114,32,73,110,102,105,110,105,116,121]⟩ else
 if e=91 then⟨#[87,82,79,78,71,84,89,80,69,32,79,112,101,114,97,116,105,111,110,32,97,103,97,105,110,115,116,32,97,32,107,101,121,32,104,111,108,100,105,110,103,32,116,104,101,32,119,114,111,110,103,32,107,105,110,100,32,111,102,32,118,97,108,117,101]⟩ else
 if e=94 then⟨#[69,82,82,32,118,97,108,117,101,32,105,115,32,116,111,111,32,108,111,110,103]⟩ else
 if e=31 then⟨#[69,82,82,32,118,97,108,117,101,32,105,115,32,116,111,111,32,108,111,110,103]⟩ else
 if e=121 then⟨#[79,79,77,32,99,111,109,109,97,110,100,32,110,111,116,32,97,108,108,111,119,101,100,32,119,104,101,110,32,117,115,101,100,32,109,101,109,111,114,121,32,105,115,32,102,117,108,108]⟩ else
 if e=131 then⟨#[69,82,82,32,115,121,110,116,97,120,32,101,114,114,111,114]⟩ else
 if e=132 then⟨#[69,82,82,32,111,112,116,105,111,110,115,32,100,111,32,110,111,116,32,103,111,32,116,111,103,101,116,104,101,114]⟩ else
 ByteArray.empty
def errKnown (e:Int):Prop:=e=11\/e=92\/e=111\/e=12\/e=93\/e=21\/e=91\/e=94\/e=31\/e=121\/e=131\/e=132
theorem werr_11 (w:World):Calls Tryz.prog 109 #[.int .i64 11] w fun x w'=>x= .returned (.string (errText 11))/\w=w':=by
 go_enter Tryz.func109,Tryz.ntmps109
 go_wp2_with fail
 go_ret
 exact⟨rfl,rfl⟩
theorem werr_92 (w:World):Calls Tryz.prog 109 #[.int .i64 92] w fun x w'=>x= .returned (.string (errText 92))/\w=w':=by
 go_enter Tryz.func109,Tryz.ntmps109
 go_wp2_with fail
 go_ret
 exact⟨rfl,rfl⟩
theorem werr_111 (w:World):Calls Tryz.prog 109 #[.int .i64 111] w fun x w'=>x= .returned (.string (errText 111))/\w=w':=by
 go_enter Tryz.func109,Tryz.ntmps109
 go_wp2_with fail
 go_ret
 exact⟨rfl,rfl⟩
theorem werr_12 (w:World):Calls Tryz.prog 109 #[.int .i64 12] w fun x w'=>x= .returned (.string (errText 12))/\w=w':=by
 go_enter Tryz.func109,Tryz.ntmps109
 go_wp2_with fail
 go_ret
 exact⟨rfl,rfl⟩
theorem werr_93 (w:World):Calls Tryz.prog 109 #[.int .i64 93] w fun x w'=>x= .returned (.string (errText 93))/\w=w':=by
 go_enter Tryz.func109,Tryz.ntmps109
 go_wp2_with fail
 go_ret
 exact⟨rfl,rfl⟩
theorem werr_21 (w:World):Calls Tryz.prog 109 #[.int .i64 21] w fun x w'=>x= .returned (.string (errText 21))/\w=w':=by
 go_enter Tryz.func109,Tryz.ntmps109
 go_wp2_with fail
 go_ret
 exact⟨rfl,rfl⟩
theorem werr_91 (w:World):Calls Tryz.prog 109 #[.int .i64 91] w fun x w'=>x= .returned (.string (errText 91))/\w=w':=by
 go_enter Tryz.func109,Tryz.ntmps109
 go_wp2_with fail
 go_ret
 exact⟨rfl,rfl⟩
theorem werr_94 (w:World):Calls Tryz.prog 109 #[.int .i64 94] w fun x w'=>x= .returned (.string (errText 94))/\w=w':=by
 go_enter Tryz.func109,Tryz.ntmps109
 go_wp2_with fail
 go_ret
 exact⟨rfl,rfl⟩
theorem werr_31 (w:World):Calls Tryz.prog 109 #[.int .i64 31] w fun x w'=>x= .returned (.string (errText 31))/\w=w':=by
 go_enter Tryz.func109,Tryz.ntmps109
 go_wp2_with fail
 go_ret
 exact⟨rfl,rfl⟩
theorem werr_121 (w:World):Calls Tryz.prog 109 #[.int .i64 121] w fun x w'=>x= .returned (.string (errText 121))/\w=w':=by
 go_enter Tryz.func109,Tryz.ntmps109
 go_wp2_with fail
 go_ret
 exact⟨rfl,rfl⟩
theorem werr_131 (w:World):Calls Tryz.prog 109 #[.int .i64 131] w fun x w'=>x= .returned (.string (errText 131))/\w=w':=by
 go_enter Tryz.func109,Tryz.ntmps109
 go_wp2_with fail
 go_ret
 exact⟨rfl,rfl⟩
theorem werr_132 (w:World):Calls Tryz.prog 109 #[.int .i64 132] w fun x w'=>x= .returned (.string (errText 132))/\w=w':=by
 go_enter Tryz.func109,Tryz.ntmps109
 go_wp2_with fail
 go_ret
 exact⟨rfl,rfl⟩
theorem werr_any (w:World) (e:Int) (h:errKnown e):Calls Tryz.prog 109 #[.int .i64 e] w fun x w'=>x= .returned (.string (errText e))/\w=w':=by
 rcases h with rfl|rfl|rfl|rfl|rfl|rfl|rfl|rfl|rfl|rfl|rfl|rfl
 ·exact werr_11 w
 ·exact werr_92 w
 ·exact werr_111 w
 ·exact werr_12 w
 ·exact werr_93 w
 ·exact werr_21 w
 ·exact werr_91 w
 ·exact werr_94 w
 ·exact werr_31 w
 ·exact werr_121 w
 ·exact werr_131 w
 ·exact werr_132 w
theorem ffail_any (hS:Step w0 [] w r) (c:Int) (h:errKnown c):
 Calls Tryz.prog 52 #[.int .i64 c] w (AnsPost w0 r (ansVal 2 (errText c) 0 (.slice none 0 0))):=by
 have S1:=(hS.alloc (.cells #[.int .i64 0,.string ByteArray.empty,.int .i64 0,.float .f64 0,.bool false,.slice none 0 0] 34))
 have herr:=hid (werr_any (w.alloc (.cells #[.int .i64 0,.string ByteArray.empty,.int .i64 0,.float .f64 0,.bool false,.slice none 0 0] 34)) c h)
 have hfail:=hid (vfail_any S1 (errText c))
 clear hS S1 h
 generalize errText c=t at herr hfail⊢
 go_enter Tryz.func52,Tryz.ntmps52
 go_wp2_with fail
 refine herr.out.mono ?_
 rintro e w1 ⟨rfl,rfl⟩
 clear herr
 go_wp2_with fail
 refine hfail.out.mono ?_
 rintro e w1 ⟨rfl,S2⟩
 generalize w.heap.size=b at S2⊢
 have hb:=S2.own.head
 obtain⟨c0,hc0⟩:∃x,w1.cell? ⟨b,0,none⟩=some x:=⟨_,cells_get hb 0⟩
 obtain⟨c1,hc1⟩:∃x,w1.cell? ⟨b,1,none⟩=some x:=⟨_,cells_get hb 1⟩
 obtain⟨c2,hc2⟩:∃x,w1.cell? ⟨b,2,none⟩=some x:=⟨_,cells_get hb 2⟩
 obtain⟨c3,hc3⟩:∃x,w1.cell? ⟨b,3,none⟩=some x:=⟨_,cells_get hb 3⟩
 obtain⟨c4,hc4⟩:∃x,w1.cell? ⟨b,4,none⟩=some x:=⟨_,cells_get hb 4⟩
 obtain⟨c5,hc5⟩:∃x,w1.cell? ⟨b,5,none⟩=some x:=⟨_,cells_get hb 5⟩
 have fz:∀j,w1.frozen? ⟨b,j,none⟩=false:=fun j=>cells_free hb j
 have hlt:=block_lt hb
 have hlast:=hid (((((((S2.set 0 (.int .i64 2)).set 1 (.string t)).set 2 (.int .i64 0)).set 3 (.float .f64 0)).set 4 (.bool false)).set 5 (.slice none 0 0)).less (List.sublist_cons_self _ _))
 clear hb S2 hfail
 unfold ansVal
 go_wp2_with fail
 refine bodyPost_ret (v:=ansVal 2 t 0 (.slice none 0 0)) (by simp[results,Tryz.results52,go_sem,ansVal, *]<;>rfl) rfl ?_
 exact⟨rfl,hlast.out⟩
theorem tfail_any (hS:Step w0 [] w r) (c:Int) (h:errKnown c):
 Calls Tryz.prog 84 #[.int .i64 c] w (AnsPost w0 r (ansVal 2 (errText c) 0 (.slice none 0 0))):=by
 have S1:=(hS.alloc (.cells #[.int .i64 0,.string ByteArray.empty,.int .i64 0,.float .f64 0,.bool false,.slice none 0 0] 34))
 have herr:=hid (werr_any (w.alloc (.cells #[.int .i64 0,.string ByteArray.empty,.int .i64 0,.float .f64 0,.bool false,.slice none 0 0] 34)) c h)
 have hfail:=hid (vfail_any S1 (errText c))
 clear hS S1 h
 generalize errText c=t at herr hfail⊢
 go_enter Tryz.func84,Tryz.ntmps84
 go_wp2_with fail
 refine herr.out.mono ?_
 rintro e w1 ⟨rfl,rfl⟩
 clear herr
 go_wp2_with fail
 refine hfail.out.mono ?_
 rintro e w1 ⟨rfl,S2⟩
 generalize w.heap.size=b at S2⊢
 have hb:=S2.own.head
 obtain⟨c0,hc0⟩:∃x,w1.cell? ⟨b,0,none⟩=some x:=⟨_,cells_get hb 0⟩
 obtain⟨c1,hc1⟩:∃x,w1.cell? ⟨b,1,none⟩=some x:=⟨_,cells_get hb 1⟩
 obtain⟨c2,hc2⟩:∃x,w1.cell? ⟨b,2,none⟩=some x:=⟨_,cells_get hb 2⟩
 obtain⟨c3,hc3⟩:∃x,w1.cell? ⟨b,3,none⟩=some x:=⟨_,cells_get hb 3⟩
 obtain⟨c4,hc4⟩:∃x,w1.cell? ⟨b,4,none⟩=some x:=⟨_,cells_get hb 4⟩
 obtain⟨c5,hc5⟩:∃x,w1.cell? ⟨b,5,none⟩=some x:=⟨_,cells_get hb 5⟩
 have fz:∀j,w1.frozen? ⟨b,j,none⟩=false:=fun j=>cells_free hb j
 have hlt:=block_lt hb
 have hlast:=hid (((((((S2.set 0 (.int .i64 2)).set 1 (.string t)).set 2 (.int .i64 0)).set 3 (.float .f64 0)).set 4 (.bool false)).set 5 (.slice none 0 0)).less (List.sublist_cons_self _ _))
 clear hb S2 hfail
 unfold ansVal
 go_wp2_with fail
 refine bodyPost_ret (v:=ansVal 2 t 0 (.slice none 0 0)) (by simp[results,Tryz.results84,go_sem,ansVal, *]<;>rfl) rfl ?_
 exact⟨rfl,hlast.out⟩
def AppPost (w0:World) (r:Hp) (v:Value) (c:Int) (e:Ending) (w':World):Prop:=e= .returned (.tuple #[v,.int .i64 c])/\Step w0 [] w' r
theorem iapp_big (hS:Step w0 [] w r) (kind:Int) (hk:¬kind=2) (text s:ByteArray) (ht:text.size<=4096) (hs:s.size<=1099511627776) (hb:4096<text.size+s.size):
 Calls Tryz.prog 99 #[itemVal kind text (.slice none 0 0),.string s] w (AppPost w0 r (itemVal kind text (.slice none 0 0)) 94):=by
 have S1:=hid (((hS.alloc (.cells #[.int .i64 kind,.string text,.slice none 0 0] 59)).alloc (.cells #[.int .i64 kind,.string text,.slice none 0 0] 59)).less ((List.sublist_cons_self _ _).trans (List.sublist_cons_self _ _)))
 have hk2:(kind==2)=false:=by simpa using hk
 have hb2:(4096:Int) - min (text.size:Int) 4096<(s.size:Int):=by omega
 clear hS
 go_enter Tryz.func99,Tryz.ntmps99
 unfold itemVal
 go_wp2_with fail
 refine bodyPost_ret (v:=.tuple #[itemVal kind text (.slice none 0 0),.int .i64 94]) (by simp[results,Tryz.results99,go_sem,itemVal, *]<;>rfl) rfl ?_
 exact⟨rfl,S1.out⟩
theorem iapp_small (hS:Step w0 [] w r) (kind:Int) (hk:¬kind=2) (text s:ByteArray) (hb:text.size+s.size<=4096):
 Calls Tryz.prog 99 #[itemVal kind text (.slice none 0 0),.string s] w (AppPost w0 r (itemVal 1 (text++s) (.slice none 0 0)) 0):=by
 have S1:=(hS.alloc (.cells #[.int .i64 kind,.string text,.slice none 0 0] 59)).alloc (.cells #[.int .i64 0,.string ByteArray.empty,.slice none 0 0] 59)
 have hcall:=hid (itext_any S1 (text++s))
 have hk2:(kind==2)=false:=by simpa using hk
 have hb2:¬(4096:Int) - min (text.size:Int) 4096<(s.size:Int):=by omega
 have ht:text.size<=4096:=by omega
 have hs:s.size<=4096:=by omega
 clear hS S1
 go_enter Tryz.func99,Tryz.ntmps99
 unfold itemVal
 go_wp2_with fail
 refine hcall.out.mono ?_
 rintro e w1 ⟨rfl,S2⟩
 clear hcall
 rw[World.size_alloc] at S2
 generalize w.heap.size+1=b at S2⊢
 have hb:=S2.own.head
 obtain⟨x0,x1,x2,fz⟩:=cells3 hb
 have hlt:=block_lt hb
 have hlast:=hid ((((S2.set 0 (.int .i64 1)).set 1 (.string (text++s))).set 2 (.slice none 0 0)).less ((List.sublist_cons_self _ _).trans (List.sublist_cons_self _ _)))
 clear hb S2
 unfold itemVal
 go_wp2_with fail
 refine bodyPost_ret (v:=.tuple #[itemVal 1 (text++s) (.slice none 0 0),.int .i64 0]) (by simp[results,Tryz.results99,go_sem,itemVal, *]<;>rfl) rfl ?_
 exact⟨rfl,hlast.out⟩
def AddPost (w0:World) (r:Hp) (v:Value) (n c:Int) (e:Ending) (w':World):Prop:=e= .returned (.tuple #[v,.int .i64 n,.int .i64 c])/\Step w0 [] w' r
theorem iadd_not (hS:Step w0 [] w r) (hG:Glob w0) (text:ByteArray) (ht:text.size<=1099511627776) (hn:wnum text=none) (n:Int):
 Calls Tryz.prog 93 #[itemVal 1 text (.slice none 0 0),.int .i64 n] w (AddPost w0 r (itemVal 1 text (.slice none 0 0)) 0 92):=by
 have S1:=(hS.alloc (.cells #[.int .i64 1,.string text,.slice none 0 0] 59)).alloc (.cells #[.int .i64 0,.string ByteArray.empty,.slice none 0 0] 59)
 rw[World.size_alloc] at S1
 have hpar:=hid (wparse_any S1 hG text ht)
 have e1:wcode (wnum text)=11:=by rw[hn];rfl
 have e2:(wnum text).getD 0=0:=by rw[hn];rfl
 rw[e1,e2] at hpar
 clear hS S1 e1 e2 hn
 go_enter Tryz.func93,Tryz.ntmps93
 unfold itemVal
 go_wp2_with fail
 refine hpar.out.mono ?_
 rintro e w1 ⟨rfl,S2⟩
 clear hpar
 have hne:¬w.heap.size=w.heap.size+1:=by omega
 have hne2:¬w.heap.size+1=w.heap.size:=by omega
 have hb1:=S2.own.head
 have hb0:=S2.own.tail.head
 obtain⟨x0,x1,x2,fz⟩:=cells3 hb0
 obtain⟨y0,y1,y2,fz1⟩:=cells3 hb1
 have hlt:=block_lt hb0
 have hlt1:=block_lt hb1
 have hlast:=hid ((((S2.set 0 (.int .i64 1)).set 1 (.string text)).set 2 (.slice none 0 0)).less ((List.sublist_cons_self _ _).trans (List.sublist_cons_self _ _)))
 clear hb0 hb1 S2
 go_wp2_with fail
 refine bodyPost_ret (v:=.tuple #[itemVal 1 text (.slice none 0 0),.int .i64 0,.int .i64 92]) (by simp[results,Tryz.results93,go_sem,itemVal, *]<;>rfl) rfl ?_
 exact⟨rfl,hlast.out⟩
theorem wnum_bounds {s:ByteArray} {m:Int} (h:wnum s=some m): -9223372036854775808<=m/\m<=9223372036854775807:=by
 unfold wnum at h
 split at h
 ·rename_i v hp
  have hb:=Lib.parseIntB_bounds hp
  split at h
  ·simp only[Option.some.injEq] at h
   subst h
   constructor<;>simp at hb<;>omega
  ·exact absurd h (by simp)
 ·exact absurd h (by simp)
theorem iadd_over (hS:Step w0 [] w r) (hG:Glob w0) (text:ByteArray) (ht:text.size<=1099511627776) (m:Int) (hn:wnum text=some m) (n:Int) (hn1: -9223372036854775808<=n/\n<=9223372036854775807) (ho:wadd m n=none):
 Calls Tryz.prog 93 #[itemVal 1 text (.slice none 0 0),.int .i64 n] w (AddPost w0 r (itemVal 1 text (.slice none 0 0)) 0 12):=by
 have S1:=(hS.alloc (.cells #[.int .i64 1,.string text,.slice none 0 0] 59)).alloc (.cells #[.int .i64 0,.string ByteArray.empty,.slice none 0 0] 59)
 rw[World.size_alloc] at S1
 have hpar:=hid (wparse_any S1 hG text ht)
 have e1:wcode (wnum text)=0:=by rw[hn];rfl
 have e2:(wnum text).getD 0=m:=by rw[hn];rfl
 rw[e1,e2] at hpar
 have hadd:∀w',Hid _:=fun w'=>hid (wadd_any m n w' (wnum_bounds hn) hn1)
 have e3:wover (wadd m n)=12:=by rw[ho];rfl
 have e4:(wadd m n).getD 0=0:=by rw[ho];rfl
 rw[e3,e4] at hadd
 clear e3 e4 ho hn1
 clear hS S1 e1 e2 hn
 go_enter Tryz.func93,Tryz.ntmps93
 unfold itemVal
 go_wp2_with fail
 refine hpar.out.mono ?_
 rintro e w1 ⟨rfl,S2⟩
 clear hpar
 have hne:¬w.heap.size=w.heap.size+1:=by omega
 have hne2:¬w.heap.size+1=w.heap.size:=by omega
 have hb1:=S2.own.head
 have hb0:=S2.own.tail.head
 obtain⟨x0,x1,x2,fz⟩:=cells3 hb0
 obtain⟨y0,y1,y2,fz1⟩:=cells3 hb1
 have hlt:=block_lt hb0
 have hlt1:=block_lt hb1
 have hlast:=hid ((((S2.set 0 (.int .i64 1)).set 1 (.string text)).set 2 (.slice none 0 0)).less ((List.sublist_cons_self _ _).trans (List.sublist_cons_self _ _)))
 clear hb0 hb1 S2
 go_wp2_with fail
 refine(hadd w1).out.mono ?_
 rintro e w2 ⟨rfl,rfl⟩
 clear hadd
 go_wp2_with fail
 refine bodyPost_ret (v:=.tuple #[itemVal 1 text (.slice none 0 0),.int .i64 0,.int .i64 12]) (by simp[results,Tryz.results93,go_sem,itemVal, *]<;>rfl) rfl ?_
 exact⟨rfl,hlast.out⟩
theorem iadd_yes (hS:Step w0 [] w r) (hG:Glob w0) (text:ByteArray) (ht:text.size<=1099511627776) (m:Int) (hn:wnum text=some m) (n:Int) (hn1: -9223372036854775808<=n/\n<=9223372036854775807) (k:Int) (ho:wadd m n=some k):
 Calls Tryz.prog 93 #[itemVal 1 text (.slice none 0 0),.int .i64 n] w (AddPost w0 r (itemVal 1 (wtext k) (.slice none 0 0)) k 0):=by
 have S1:=(hS.alloc (.cells #[.int .i64 1,.string text,.slice none 0 0] 59)).alloc (.cells #[.int .i64 0,.string ByteArray.empty,.slice none 0 0] 59)
 rw[World.size_alloc] at S1
 have hpar:=hid (wparse_any S1 hG text ht)
 have e1:wcode (wnum text)=0:=by rw[hn];rfl
 have e2:(wnum text).getD 0=m:=by rw[hn];rfl
 rw[e1,e2] at hpar
 have hadd:∀w',Hid _:=fun w'=>hid (wadd_any m n w' (wnum_bounds hn) hn1)
 have e3:wover (wadd m n)=0:=by rw[ho];rfl
 have e4:(wadd m n).getD 0=k:=by rw[ho];rfl
 rw[e3,e4] at hadd
 have hk: -9223372036854775808<=k/\k<=9223372036854775807:=by
  unfold wadd at ho
  split at ho
  ·rename_i hh;simp only[Option.some.injEq] at ho;omega
  ·exact absurd ho (by simp)
 obtain⟨hk1,hk2⟩:=hk
 clear e3 e4 ho hn1
 clear hS S1 e1 e2 hn
 go_enter Tryz.func93,Tryz.ntmps93
 unfold itemVal
 go_wp2_with fail
 refine hpar.out.mono ?_
 rintro e w1 ⟨rfl,S2⟩
 clear hpar
 have hlt0:=block_lt S2.own.tail.head
 have htx:=hid (wtext_any S2 hG k hk1 hk2)
 clear S2
 go_wp2_with fail
 refine(hadd w1).out.mono ?_
 rintro e w2 ⟨rfl,rfl⟩
 clear hadd
 go_wp2_with fail
 refine htx.out.mono ?_
 rintro e w3 ⟨rfl,S3⟩
 have hit:=hid (itext_any S3 (wtext k))
 clear htx S3 hlt0
 go_wp2_with fail
 refine hit.out.mono ?_
 rintro e w4 ⟨rfl,S4⟩
 clear hit
 have hb1:=S4.own.head
 obtain⟨y0,y1,y2,fz1⟩:=cells3 hb1
 have hlt1:=block_lt hb1
 have hlast:=hid ((((S4.set 0 (.int .i64 1)).set 1 (.string (wtext k))).set 2 (.slice none 0 0)).less ((List.sublist_cons_self _ _).trans (List.sublist_cons_self _ _)))
 clear hb1 S4
 unfold itemVal
 go_wp2_with fail
 refine bodyPost_ret (v:=.tuple #[itemVal 1 (wtext k) (.slice none 0 0),.int .i64 k,.int .i64 0]) (by simp[results,Tryz.results93,go_sem,itemVal, *]<;>rfl) rfl ?_
 exact⟨rfl,hlast.out⟩
theorem iadd_new (hS:Step w0 [] w r) (hG:Glob w0) (n:Int) (hn1: -9223372036854775808<=n/\n<=9223372036854775807):
 Calls Tryz.prog 93 #[itemVal 0 ByteArray.empty (.slice none 0 0),.int .i64 n] w (AddPost w0 r (itemVal 1 (wtext n) (.slice none 0 0)) n 0):=by
 have S1:=(hS.alloc (.cells #[.int .i64 0,.string ByteArray.empty,.slice none 0 0] 59)).alloc (.cells #[.int .i64 0,.string ByteArray.empty,.slice none 0 0] 59)
 have hadd:∀w',Hid _:=fun w'=>hid (wadd_any 0 n w' (by omega) hn1)
 have ho:wadd 0 n=some n:=by unfold wadd;rw[if_pos (by omega)];simp
 have e3:wover (wadd 0 n)=0:=by rw[ho];rfl
 have e4:(wadd 0 n).getD 0=n:=by rw[ho];rfl
 rw[e3,e4] at hadd
 have htx:=hid (wtext_any S1 hG n hn1.1 hn1.2)
 clear hS S1 e3 e4 ho hn1
 go_enter Tryz.func93,Tryz.ntmps93
 unfold itemVal
 go_wp2_with fail
 refine(hadd _).out.mono ?_
 rintro e w2 ⟨rfl,rfl⟩
 clear hadd
 go_wp2_with fail
 refine htx.out.mono ?_
 rintro e w3 ⟨rfl,S3⟩
 have hit:=hid (itext_any S3 (wtext n))
 clear htx S3
 go_wp2_with fail
 refine hit.out.mono ?_
 rintro e w4 ⟨rfl,S4⟩
 rw[World.size_alloc] at S4
 clear hit
 have hb1:=S4.own.head
 obtain⟨y0,y1,y2,fz1⟩:=cells3 hb1
 have hlt1:=block_lt hb1
 have hlast:=hid ((((S4.set 0 (.int .i64 1)).set 1 (.string (wtext n))).set 2 (.slice none 0 0)).less ((List.sublist_cons_self _ _).trans (List.sublist_cons_self _ _)))
 clear hb1 S4
 unfold itemVal
 go_wp2_with fail
 refine bodyPost_ret (v:=.tuple #[itemVal 1 (wtext n) (.slice none 0 0),.int .i64 n,.int .i64 0]) (by simp[results,Tryz.results93,go_sem,itemVal, *]<;>rfl) rfl ?_
 exact⟨rfl,hlast.out⟩
structure Cells6 (w:World) (b:Nat):Prop where
 c0:∃x,w.cell? ⟨b,0,none⟩=some x
 c1:∃x,w.cell? ⟨b,1,none⟩=some x
 c2:∃x,w.cell? ⟨b,2,none⟩=some x
 c3:∃x,w.cell? ⟨b,3,none⟩=some x
 c4:∃x,w.cell? ⟨b,4,none⟩=some x
 c5:∃x,w.cell? ⟨b,5,none⟩=some x
 fz:∀j,w.frozen? ⟨b,j,none⟩=false
 lt:b<w.heap.size
theorem cells6 {b:Nat} {o0 o1 o2 o3 o4 o5:Value} (h:Own w ((b,.cells #[o0,o1,o2,o3,o4,o5] 34 (0,0))::r)):Cells6 w b:=
 ⟨⟨_,cells_get h.head 0⟩,⟨_,cells_get h.head 1⟩,⟨_,cells_get h.head 2⟩,⟨_,cells_get h.head 3⟩,⟨_,cells_get h.head 4⟩,⟨_,cells_get h.head 5⟩,fun j=>cells_free h.head j,block_lt h.head⟩
theorem told_nil (hS:Step w0 [] w r) (kind:Int) (text:ByteArray) (v:Value):
 Calls Tryz.prog 39 #[itemVal kind text v,.bool false] w (AnsPost w0 r (ansVal 6 ByteArray.empty 0 (.slice none 0 0))):=by
 have S1:=(hS.alloc (.cells #[.int .i64 kind,.string text,v] 59)).alloc (.cells #[.int .i64 0,.string ByteArray.empty,.int .i64 0,.float .f64 0,.bool false,.slice none 0 0] 34)
 rw[World.size_alloc] at S1
 have hnil:=hid (vnil_any S1)
 clear hS S1
 go_enter Tryz.func39,Tryz.ntmps39
 unfold itemVal
 go_wp2_with fail
 refine hnil.out.mono ?_
 rintro e w1 ⟨rfl,S2⟩
 obtain⟨⟨c0,hc0⟩,⟨c1,hc1⟩,⟨c2,hc2⟩,⟨c3,hc3⟩,⟨c4,hc4⟩,⟨c5,hc5⟩,fz,hlt⟩:=cells6 S2.own
 have hlast:=hid (((((((S2.set 0 (.int .i64 6)).set 1 (.string ByteArray.empty)).set 2 (.int .i64 0)).set 3 (.float .f64 0)).set 4 (.bool false)).set 5 (.slice none 0 0)).less ((List.sublist_cons_self _ _).trans (List.sublist_cons_self _ _)))
 clear S2 hnil
 unfold ansVal
 go_wp2_with fail
 refine bodyPost_ret (v:=ansVal 6 ByteArray.empty 0 (.slice none 0 0)) (by simp[results,Tryz.results39,go_sem,ansVal, *]<;>rfl) rfl ?_
 exact⟨rfl,hlast.out⟩
theorem told_hash (hS:Step w0 [] w r) (text:ByteArray) (v:Value):
 Calls Tryz.prog 39 #[itemVal 2 text v,.bool true] w (AnsPost w0 r (ansVal 2 (errText 91) 0 (.slice none 0 0))):=by
 have S1:=(hS.alloc (.cells #[.int .i64 2,.string text,v] 59)).alloc (.cells #[.int .i64 0,.string ByteArray.empty,.int .i64 0,.float .f64 0,.bool false,.slice none 0 0] 34)
 rw[World.size_alloc] at S1
 have hnil:=hid (tfail_any S1 91 (by unfold errKnown;omega))
 clear hS S1
 generalize errText 91=t at hnil⊢
 go_enter Tryz.func39,Tryz.ntmps39
 unfold itemVal
 go_wp2_with fail
 refine hnil.out.mono ?_
 rintro e w1 ⟨rfl,S2⟩
 obtain⟨⟨c0,hc0⟩,⟨c1,hc1⟩,⟨c2,hc2⟩,⟨c3,hc3⟩,⟨c4,hc4⟩,⟨c5,hc5⟩,fz,hlt⟩:=cells6 S2.own
 have hlast:=hid (((((((S2.set 0 (.int .i64 2)).set 1 (.string (t))).set 2 (.int .i64 0)).set 3 (.float .f64 0)).set 4 (.bool false)).set 5 (.slice none 0 0)).less ((List.sublist_cons_self _ _).trans (List.sublist_cons_self _ _)))
 clear S2 hnil
 unfold ansVal
 go_wp2_with fail
 refine bodyPost_ret (v:=ansVal 2 (t) 0 (.slice none 0 0)) (by simp[results,Tryz.results39,go_sem,ansVal, *]<;>rfl) rfl ?_
 exact⟨rfl,hlast.out⟩
theorem told_text (hS:Step w0 [] w r) (kind:Int) (text:ByteArray) (v:Value) (hk:¬kind=2):
 Calls Tryz.prog 39 #[itemVal kind text v,.bool true] w (AnsPost w0 r (ansVal 4 text 0 (.slice none 0 0))):=by
 have S1:=(hS.alloc (.cells #[.int .i64 kind,.string text,v] 59)).alloc (.cells #[.int .i64 0,.string ByteArray.empty,.int .i64 0,.float .f64 0,.bool false,.slice none 0 0] 34)
 rw[World.size_alloc] at S1
 have hnil:=hid (vtext_any S1 text)
 have hk2:(kind==2)=false:=by simpa using hk
 clear hS S1
 go_enter Tryz.func39,Tryz.ntmps39
 unfold itemVal
 go_wp2_with fail
 refine hnil.out.mono ?_
 rintro e w1 ⟨rfl,S2⟩
 obtain⟨⟨c0,hc0⟩,⟨c1,hc1⟩,⟨c2,hc2⟩,⟨c3,hc3⟩,⟨c4,hc4⟩,⟨c5,hc5⟩,fz,hlt⟩:=cells6 S2.own
 have hlast:=hid (((((((S2.set 0 (.int .i64 4)).set 1 (.string text)).set 2 (.int .i64 0)).set 3 (.float .f64 0)).set 4 (.bool false)).set 5 (.slice none 0 0)).less ((List.sublist_cons_self _ _).trans (List.sublist_cons_self _ _)))
 clear S2 hnil
 unfold ansVal
 go_wp2_with fail
 refine bodyPost_ret (v:=ansVal 4 text 0 (.slice none 0 0)) (by simp[results,Tryz.results39,go_sem,ansVal, *]<;>rfl) rfl ?_
 exact⟨rfl,hlast.out⟩
end Go.Proofs.YtlbjfafbahphgaaGreatDoor
