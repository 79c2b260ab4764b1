/-
What a command of keys does are moves at its own keys. Plain (no program in sight).
-/
import Derived.Lay
import Derived.OpenShut
import Derived.ProofKit
import Derived.Sort.Grow
import Derived.WalkKit
import Derived.Test.YtlbjfafbahphgaaGreatDoorQ14
import Derived.Test.YtlbjfafbahphgaaGreatDoorQ42
set_option linter.unusedVariables false
set_option linter.unusedSimpArgs false
set_option maxRecDepth 100000
set_option maxHeartbeats 8000000
namespace Go.Proofs.YtlbjfafbahphgaaGreatDoor
open Go
def evens:List ByteArray->List ByteArray
 |a::_::l=>a::evens l
 |l=>l
def keysOf (sp:Sp) (ws:List ByteArray):List ByteArray:=if sp.first=0 then [] else if sp.last=1 then ws.take 1 else if sp.step=1 then ws else evens ws
section
variable {now:Int} {own:ByteArray->Prop} {S T:St}
theorem Mv.get (h:Mv now own S T) (k:ByteArray):Mv now own S (T.get k now):=(h.due k).touch k
theorem Mv.putG (h:Mv now own S T) {k:ByteArray} (ho:own k) (it:Itm) (hr:T.putE k it=0->rightB it) (keep:Bool):Mv now own S (T.putG k it keep now):=by
 unfold St.putG
 split
 ·rename_i h0
  have h1:=putE_zero h0
  exact h.put ho it keep h1.1 (hr h0) h1.2.2
 ·exact h.due k
theorem Mv.putT (h:Mv now own S T) {k:ByteArray} (ho:own k) (s:ByteArray) (keep:Bool):Mv now own S (T.putG k (textItm s) keep now):=
 h.putG ho _ (fun h0=>text_right (Nat.le_of_not_lt fun hlt=>(putE_zero h0).2.1 ⟨rfl,hlt⟩)) keep
theorem Mv.fresh (h:Mv now own S T) {k:ByteArray} (ho:own k) (s:ByteArray) (a:Lf):Mv now own S (tFresh T now k s a).1:=h.putT ho s false
theorem Mv.keep (h:Mv now own S T) {k:ByteArray} (ho:own k) {it:Itm} {e:Int} (hit:e=0->∃s,it=textItm s) (a:Lf):Mv now own S (tKeep T now k it e a).1:=by
 unfold tKeep
 split
 ·rename_i h0
  obtain⟨s,rfl⟩:=hit h0
  exact h.putT ho s true
 ·exact h
theorem Mv.add (h:Mv now own S T) {k:ByteArray} (ho:own k) (n:Int):Mv now own S (tAdd T now k n).1:=(h.get k).keep ho (addOf_text _ n) _
theorem Mv.addText (h:Mv now own S T) {k:ByteArray} (ho:own k) (s:ByteArray) (less:Bool):Mv now own S (tAddText T now k s less).1:=by
 unfold tAddText
 split
 ·exact h
 ·split
  ·split
   ·exact h.add ho _
   ·exact h
  ·exact h.add ho _
theorem Mv.swap (h:Mv now own S T) {k:ByteArray} (ho:own k) (s:ByteArray) (drop:Bool):Mv now own S (tSwap T now k s drop).1:=by
 unfold tSwap
 split
 ·exact h.get k
 ·split
  ·exact((h.get k).due k).gone ho 2
  ·exact(h.get k).fresh ho s _
theorem Mv.nx (h:Mv now own S T) {k:ByteArray} (ho:own k) (s:ByteArray):Mv now own S (tNx T now k s).1:=by
 unfold tNx
 split
 ·exact h.due k
 ·exact(h.due k).fresh ho s _
theorem Mv.many:∀(ws:List ByteArray) {T:St} (_:Mv now own S T),Mv now own S (tMany T now ws).1
 |[],_,h=>h
 |k::ks,T,h=>Mv.many ks (h.get k)
theorem Mv.pairs:∀(ws:List ByteArray) {T:St} (_:Mv now own S T) (_:∀k∈evens ws,own k),Mv now own S (tPairs T now ws).1
 |k::s::l,T,h,ho=>by
  unfold tPairs
  split
  ·exact Mv.pairs l (h.putT (ho k (by simp[evens])) s false) fun x hx=>ho x (by simp[evens,hx])
  ·exact h.putT (ho k (by simp[evens])) s false
 |[],_,h,_=>by unfold tPairs;exact h
 |[_],_,h,_=>by unfold tPairs;exact h
theorem Mv.set (h:Mv now own S T) {k:ByteArray} (ho:own k) (s:ByteArray) (l:List ByteArray):Mv now own S (tSet T now k s l).1:=by
 unfold tSet
 split
 ·unfold tSetO
  split
  ·exact h.due k
  ·split
   ·exact h.due k
   ·split
    ·simp only
     split
     ·exact(((h.due k).putT ho s _).due k).expire ho _
     ·exact(h.due k).putT ho s _
    ·exact(h.due k).putT ho s _
 ·exact h
theorem Mv.count (f:St->ByteArray->St×Bool) (hf:∀{T:St} (_:Mv now own S T) (k:ByteArray),own k->Mv now own S (f T k).1):∀(ws:List ByteArray) {T:St} (_:Mv now own S T) (n:Int) (_:∀k∈ws,own k),Mv now own S (eCount f T n ws).1
 |[],_,h,_,_=>h
 |k::l,T,h,n,ho=>Mv.count f hf l (hf h k (ho k (by simp))) _ fun x hx=>ho x (by simp[hx])
theorem Mv.exp (h:Mv now own S T) {k:ByteArray} (ho:own k) (m:ByteArray) (u:Int):Mv now own S (eExpire T now k m u).1:=by
 unfold eExpire
 split
 ·exact h
 ·split
  ·split
   ·exact(h.due k).expire ho _
   ·exact h
  ·exact(h.due k).expire ho _
theorem Mv.fkeep (h:Mv now own S T) {k:ByteArray} (ho:own k) {it:Itm} (hr:rightB it) (n:Int):Mv now own S (fKeep T now k it n).1:=h.putG ho it (fun _=>hr) true
theorem fSetGo_ok:∀(ws:List ByteArray) {fs:Fs} (_:FsOk fs) (n:Int),(fSetGo fs n ws).2.2=0->FsOk (fSetGo fs n ws).1/\(0<fs.length\/2<=ws.length->0<(fSetGo fs n ws).1.length)
 |k::s::l,fs,hf,n,h=>by
  unfold fSetGo at h⊢
  split at h
  ·rename_i hp
   rw[if_pos hp]
   have hq:=hf.fput hp
   have ih:=fSetGo_ok l hq.1 _ h
   exact⟨ih.1,fun _=>ih.2 (.inl hq.2)⟩
  ·simp at h
 |[],_,hf,_,_=>⟨hf,fun h=>h.elim id (by simp)⟩
 |[_],_,hf,_,_=>⟨hf,fun h=>h.elim id (by simp)⟩
theorem fDelGo_ok:∀(ws:List ByteArray) {fs:Fs} (_:FsOk fs) (n:Int),FsOk (fDelGo fs n ws).1
 |[],_,hf,_=>hf
 |x::l,fs,hf,n=>by
  unfold fDelGo
  refine fDelGo_ok l ?_ _
  split
  ·exact hf.fdel x
  ·exact hf
theorem Mv.fset (h:Mv now own S T) {k:ByteArray} (ho:own k) {fs:Fs} (hf:FsOk fs) {ws:List ByteArray} (hl:2<=ws.length):Mv now own S (fSetAll T now k fs ws).1:=by
 unfold fSetAll fSetFin
 split
 ·rename_i h0
  have q:=fSetGo_ok ws hf 0 h0
  exact h.fkeep ho (q.1.right (q.2 (.inr hl))) _
 ·exact h
theorem Mv.fdel (h:Mv now own S T) {k:ByteArray} (ho:own k) {fs:Fs} (hf:FsOk fs) (ws:List ByteArray):Mv now own S (fDelAll T now k fs ws).1:=by
 unfold fDelAll fDelFin
 split
 ·exact h
 ·split
  ·exact(h.due k).gone ho 2
  ·exact h.fkeep ho ((fDelGo_ok ws hf 0).right (by omega)) _
theorem Mv.fadd (h:Mv now own S T) {k:ByteArray} (ho:own k) {fs:Fs} (hf:FsOk fs) (m m2:ByteArray):Mv now own S (fAddAll T now k fs m m2).1:=by
 unfold fAddAll
 split
 ·exact h
 ·unfold fAddFin
  split
  ·split
   ·rename_i hp
    have hq:=hf.fput hp
    exact h.fkeep ho (hq.1.right hq.2) _
   ·exact h
  ·exact h
theorem Mv.real {k:ByteArray} (ho:own k) {T:St×Lf} (h:RealOut S now k T):Mv now own S T.1:=by
 rcases h with rfl|⟨nx,tx,code,hc,rfl⟩
 ·exact .refl
 ·refine(Mv.refl.get k).keep ho (fun h0=>?_) _
  rcases hc with⟨_,h2⟩|⟨h2,_⟩
  ·exact⟨tx,h2⟩
  ·exact absurd h0 h2
end
theorem ran_mv {S:St} {now:Int} {sp:Sp} {ws:List ByteArray} {o:Res} (h:Ran S now sp ws o) (hf:Fit S) (hl:sp.least<=(ws.length:Int)+1):Mv now (·∈keysOf sp ws) S o.st:=by
 have R:Mv now (·∈keysOf sp ws) S S:=.refl
 cases h with
 |get h k=>exact R.get k
 |set h k m ws=>exact R.set (by simp[keysOf,h,spSET]) m ws
 |setnx h k m=>exact R.nx (by simp[keysOf,h,spSETNX]) m
 |getset h k m=>exact R.swap (by simp[keysOf,h,spGETSET]) m false
 |getdel h k=>exact R.swap (by simp[keysOf,h,spGETDEL]) _ true
 |mget h k ws=>exact R.many _
 |mset h k ws=>exact R.pairs _ (fun x hx=>by simpa[keysOf,h,spMSET] using hx)
 |incr h k=>exact R.add (by simp[keysOf,h,spINCR]) 1
 |decr h k=>exact R.add (by simp[keysOf,h,spDECR]) (-1)
 |incrby h k m=>exact R.addText (by simp[keysOf,h,spINCRBY]) m false
 |decrby h k m=>exact R.addText (by simp[keysOf,h,spDECRBY]) m true
 |append_ h k m=>exact(R.get k).keep (by simp[keysOf,h,spAPPEND]) (joinOf_text _ m) _
 |strlen h k=>exact R.get k
 |real h k m T hT=>exact Mv.real (by simp[keysOf,h,spREAL]) hT
 |htext h k ws ht=>exact R.get k
 |hset h k ws ht=>exact(R.get k).fset (by simp[keysOf,h,spHSET]) (look_ok hf k now).1 (by subst h;simp[spHSET] at hl;omega)
 |hget h k m ht=>exact R.get k
 |hdel h k ws ht=>exact(R.get k).fdel (by simp[keysOf,h,spHDEL]) (look_ok hf k now).1 ws
 |hgetall h k ht=>exact R.get k
 |hlen h k ht=>exact R.get k
 |hexists h k m ht=>exact R.get k
 |hmget h k ws ht=>exact R.get k
 |hincrby h k m m2 ht=>exact(R.get k).fadd (by simp[keysOf,h,spHINCRBY]) (look_ok hf k now).1 m m2
 |del h ws=>exact Mv.count _ (fun hm k ho=>(hm.due k).gone ho 2) ws R 0 (fun x hx=>by simpa[keysOf,h,spDEL] using hx)
 |unlink h ws=>exact Mv.count _ (fun hm k ho=>(hm.due k).gone ho 2) ws R 0 (fun x hx=>by simpa[keysOf,h,spUNLINK] using hx)
 |exists_ h ws=>exact Mv.count _ (fun hm k _=>hm.due k) ws R 0 (fun x hx=>by simpa[keysOf,h,spEXISTS] using hx)
 |expire h k m=>exact R.exp (by simp[keysOf,h,spEXPIRE]) m 1000
 |pexpire h k m=>exact R.exp (by simp[keysOf,h,spPEXPIRE]) m 1
 |persist h k=>exact(R.due k).persist (by simp[keysOf,h,spPERSIST])
 |ttl h k=>exact R.due k
 |pttl h k=>exact R.due k
 |type h k=>exact R.due k
 |flushall h=>exact R.flush
 |dbsize h=>exact R
theorem out_mv {S:St} {now:Int} {ws:List ByteArray} {o:Res} (h:Out S now ws o) (hf:Fit S):Mv now (·∈keysOf (wcheck ws).1 (ws.drop 1)) S o.st:=by
 unfold Out at h
 split at h
 ·rename_i h0
  split at h
  ·obtain⟨c,rest,rfl,h⟩:=h
   have hc:=wcheck_ok (c:=c) (ws:=rest) (sp:=(wcheck (c::rest)).1) (Prod.ext rfl h0)
   exact ran_mv h hf hc.2.1
  ·rw[h];exact .refl
 ·rw[h];exact .refl
end Go.Proofs.YtlbjfafbahphgaaGreatDoor
namespace Go.Proofs.YtlbjfafbahphgaaGreatDoor
open Go Go.RowKit
def WordsAt (W:World) (v:Value) (ws:List ByteArray):Prop:=
 ∃a cap,v= .slice a ws.length cap/\ws.length<=cap/\cap<=capMax/\∀i s,ws[i]? =some s->s.size<=9223372036854775807/\∃g off,a=some ⟨g,off,none⟩/\g<W.heap.size/\W.cell? ⟨g,off+i,none⟩=some (.string s)
structure ActM where
 v:Value
 ws:List ByteArray
 wait:Nat
def ActsAt (W:World) (v:Value) (acts:List ActM):Prop:=
 ∃a cap,v= .slice a acts.length cap/\acts.length<=cap/\cap<=9223372036854775807/\∀i x,acts[i]? =some x->WordsAt W x.v x.ws/\x.wait<=65535/\
  ∃g off,a=some ⟨g,off,none⟩/\g<W.heap.size/\W.cell? ⟨g,off+i*2,none⟩=some x.v/\W.cell? ⟨g,off+i*2+1,none⟩=some (.int .u16 x.wait)
theorem Step.in_ {w0 w':World} {x:Hp} (h:Step w0 [] w' x) {g i:Nat} (hg:g<w0.heap.size) {v:Value} (hc:w0.cell? ⟨g,i,none⟩=some v):w'.cell? ⟨g,i,none⟩=some v:=by
 have e:=h.same g hg (by simp[keys])
 unfold World.cell? at hc⊢
 rw[e];exact hc
def Few (many:Nat) (acts:List ActM):Prop:=acts.length<=many/\∀a∈acts,a.ws.length<=70/\∀s∈a.ws,s.size<=4500
def GreatPost (w0:World) (r:Hp) (many:Nat) (acts:List ActM) (e:Ending) (w':World):Prop:=∃b:Bool,e= .returned (.bool b)/\(b=false->Few many acts)/\Step w0 [] w' r
theorem take_all {α:Type} {P:α->Prop} {l:List α} {k:Nat} {x:α} (hx:l[k]? =some x) (h:∀y∈l.take k,P y) (hp:P x):∀y∈l.take (k+1),P y:=by
 intro y hy
 rw[List.take_add_one,hx] at hy
 rcases List.mem_append.1 hy with hy|hy
 ·exact h y hy
 ·simp only[Option.toList_some,List.mem_cons,List.not_mem_nil,or_false] at hy
  subst hy;exact hp
theorem great_any {w0 w:World} {r:Hp} (hS:Step w0 [] w r) {v:Value} {acts:List ActM} (h:ActsAt w0 v acts) (many:Nat) (hmany:many<=1000):
 Calls Tryz.prog 7 #[v,.int .i64 many] w (GreatPost w0 r many acts):=by
 obtain⟨a,cap,rfl,hc1,hc2,hel⟩:=h
 obtain⟨n,hn⟩:∃n,n=acts.length:=⟨_,rfl⟩
 rw[<-hn] at hc1⊢
 replace hn:=hid hn
 replace hel:=hid hel
 have S0:=hid hS
 clear hS
 go_enter Tryz.func7,Tryz.ntmps7
 by_cases h30:many<n
 ·have h30b:(many:Int)<(n:Int):=by omega
  go_wp2_with fail
  go_ret
  exact⟨true,rfl,by simp,S0.out⟩
 have h30b:¬(many:Int)<(n:Int):=by omega
 have hn2:n<=9223372036854775807:=by omega
 go_wp2_with fail
 go_loopw [6,8,15,26] (fun s6 s8 s15 s26 wr=>∃k:Nat,s15= .int .i64 k/\k<=n/\Hid (∀x∈acts.take k,x.ws.length<=70/\∀s∈x.ws,s.size<=4500)/\Hid (Step w0 [] wr r)) (fun s6 s8 s15 s26 wr=>(n - intOf s15).toNat)
 case atStart=>exact⟨0,rfl,Nat.zero_le _,hid (by simp),S0⟩
 case round=>
  obtain⟨k,rfl,hk,hsz,S1⟩:=hrel
  clear S0
  by_cases hlt:k<n
  ·obtain⟨x,hx⟩:∃x,acts[k]? =some x:=⟨acts[k]'(by rw[<-hn.out];exact hlt),List.getElem?_eq_getElem _⟩
   obtain⟨hw,hwait,g,off,rfl,hg,c0,c1⟩:=hel.out k x hx
   replace c0:=S1.out.in_ hg c0
   replace c1:=S1.out.in_ hg c1
   obtain⟨xv,ws,wait⟩:=x
   obtain⟨wa,wc,hxv,hw1,hw2,hwel⟩:=hw
   unfold capMax at hw2
   simp only at hxv hw1 hw2 hwel c0 c1 hwait
   obtain⟨m,hm⟩:∃m,m=ws.length:=⟨_,rfl⟩
   rw[<-hm] at hxv hw1
   subst hxv
   replace hm:=hid hm
   replace hwel:=hid hwel
   replace hx:=hid hx
   have hlt3:(k:Int)<(n:Int):=by omega
   have S9:=hid ((S1.out.alloc (.cells #[.slice wa m wc,.int .u16 wait] 28)).less (List.sublist_cons_self _ _))
   by_cases e1:70<m
   ·have e1b:(70:Int)<(m:Int):=by omega
    clear S1
    go_wp2_with fail
    go_ret
    exact⟨true,rfl,by simp,S9.out⟩
   have e1b:¬(70:Int)<(m:Int):=by omega
   clear S1
   go_wp2_with fail
   generalize hwl:wr.alloc _=w1 at S9⊢
   clear hwl c0 c1
   have hm2:m<=9223372036854775807:=by omega
   go_loopw [8,26] (fun s8 s26 wq=>∃j:Nat,s26= .int .i64 j/\j<=m/\Hid (∀s∈ws.take j,s.size<=4500)/\Hid (Step w0 [] wq r)) (fun s8 s26 wq=>(m - intOf s26).toNat)
   case atStart=>exact⟨0,rfl,Nat.zero_le _,hid (by simp),S9⟩
   case round=>
    obtain⟨j,rfl,hj,hsj,S2⟩:=hrel
    clear S9
    by_cases hjt:j<m
    ·obtain⟨s,hs⟩:∃s,ws[j]? =some s:=⟨ws[j]'(by rw[<-hm.out];exact hjt),List.getElem?_eq_getElem _⟩
     obtain⟨hss,g2,off2,rfl,hg2,c2⟩:=hwel.out j s hs
     replace c2:=S2.out.in_ hg2 c2
     replace hs:=hid hs
     have hjt3:(j:Int)<(m:Int):=by omega
     by_cases e2:4500<s.size
     ·have e2b:(4500:Int)<(s.size:Int):=by omega
      go_wp2_with fail
      go_ret
      exact⟨true,rfl,by simp,S2.out⟩
     have e2b:¬(4500:Int)<(s.size:Int):=by omega
     go_wp2_with fail
     go_roundw
     case rel=>exact⟨j+1,by go_num,hjt,hid (take_all hs.out hsj.out (by omega)),S2⟩
     case measure=>simp[intOf];omega
    ·have hge2:¬(j:Int)<(m:Int):=by omega
     have hall:∀s∈ws,s.size<=4500:=by
      have:=hsj.out
      rwa[List.take_of_length_le (by rw[<-hm.out];omega)] at this
     replace hall:=hid hall
     go_wp2_with fail
     go_roundw
     case rel=>exact⟨k+1,by go_num,hlt,hid (take_all hx.out hsz.out ⟨by simp only;rw[<-hm.out];omega,hall.out⟩),S2⟩
     case measure=>simp[intOf];omega
  ·have hge:¬(k:Int)<(n:Int):=by omega
   go_wp2_with fail
   go_ret
   refine⟨false,rfl,fun _=>⟨by rw[<-hn.out];omega,?_⟩,S1.out⟩
   have:=hsz.out
   rwa[List.take_of_length_le (by rw[<-hn.out];omega)] at this
end Go.Proofs.YtlbjfafbahphgaaGreatDoor
namespace Go.Proofs.YtlbjfafbahphgaaGreatDoor
open Go Go.RowKit Go.ChangeShapes Go.WideShapes Go.ChangeAt
section
variable {H:Type} {enc:TypeId×Value->H} {w:World} {base:Nat} {spare:Nat->Bool} {held:Bool}
theorem cells_one {b:Addr} {cs:List Value} (h:w.cells? base b 1=some cs):∃v,cs=[v]/\w.cell? b=some v:=by
 unfold World.cells? at h
 split at h
 ·simp only[show List.range 1=[0] from rfl,List.mapM_cons,List.mapM_nil,Option.bind_eq_bind,Option.bind_eq_some_iff,Option.pure_def,Option.some.injEq] at h
  obtain⟨c0,e0,q,rfl,rfl⟩:=h
  exact⟨c0,rfl,e0⟩
 ·cases h
theorem cells_two {b:Addr} {cs:List Value} (h:w.cells? base b 2=some cs):∃u v,cs=[u,v]/\w.cell? b=some u/\w.cell? (b.add 1)=some v:=by
 unfold World.cells? at h
 split at h
 ·simp only[show List.range 2=[0,1] from rfl,List.mapM_cons,List.mapM_nil,Option.bind_eq_bind,Option.bind_eq_some_iff,Option.pure_def,Option.some.injEq] at h
  obtain⟨c0,e0,q,⟨c1,e1,q2,rfl,rfl⟩,rfl⟩:=h
  exact⟨c0,c1,rfl,e0,e1⟩
 ·cases h
theorem cell_small {g o:Nat} {q} {v:Value} (h:w.cell? ⟨g,o,q⟩=some v):g<w.heap.size:=by
 rcases Nat.lt_or_ge g w.heap.size with h2|h2
 ·exact h2
 ·have e:w.heap[g]? =none:=Array.getElem?_eq_none h2
  simp[World.cell?,e] at h
theorem open_words (hcap:maxLen<=capMax) {n:Nat} {cs:List Value} {y:DataW H×List MemPlace} (h:DataW.trod enc Tryz.prog w base spare held n 23 cs=some y):∃v ws,cs=[v]/\WordsAt w v ws:=by
 rcases DataW.trod_slice Tryz.underlying23 h with⟨rfl,_⟩|⟨a,len,cap,elems,rest,n,_,rfl,_,_,hl,hm,hlen,hel,_,_⟩
 ·exact⟨_,[],rfl,none,0,rfl,Nat.le_refl _,Nat.zero_le _,by simp⟩
 ·have hc1:Tryz.prog.cellsOf 9=1:=by kernel_rfl
  rw[hc1] at hel
  have hs:∀i,∃s:ByteArray,i<len->s.size<=maxLen/\w.cell? (a.add i)=some (.string s):=fun i=>by
   by_cases hi:i<len
   ·have h1:=hel i hi
    rw[Nat.mul_one,List.getElem?_eq_getElem (by omega),Option.bind_eq_some_iff] at h1
    obtain⟨cs,h2,h3⟩:=h1
    obtain⟨v,rfl,h4⟩:=cells_one h2
    obtain⟨s,h5,_,h6⟩:=DataW.trod_string Tryz.underlying9 h3
    simp only[List.cons.injEq,and_true] at h5
    subst h5
    exact⟨s,fun _=>⟨h6,h4⟩⟩
   ·exact⟨ByteArray.empty,fun h=>absurd h hi⟩
  refine⟨_,(List.range len).map fun i=>(hs i).choose,rfl,some a,cap,by simp,by simpa using hl,by omega,fun i s hi=>?_⟩
  rw[List.getElem?_map] at hi
  have hil:i<len:=by
   rcases Nat.lt_or_ge i len with h|h
   ·exact h
   ·rw[List.getElem?_eq_none (by simpa using h)] at hi;cases hi
  rw[List.getElem?_eq_getElem (by simpa using hil),Option.map_some,Option.some.injEq,List.getElem_range] at hi
  obtain⟨h1,h2⟩:=(hs i).choose_spec hil
  rw[hi] at h1 h2
  have h00:=((hs 0).choose_spec (by omega)).2
  obtain⟨g,off,q⟩:=a
  have h01:w.cell? ⟨g,off,q⟩=some (.string (hs 0).choose):=h00
  obtain rfl:q=none:=World.cell?_spot h01
  rw[addr_add] at h2
  exact⟨by unfold maxLen at h1;omega,g,off,rfl,cell_small h2,h2⟩
theorem open_act (hcap:maxLen<=capMax) {b:Addr} {n:Nat} {y:DataW H×List MemPlace} (h:(w.cells? base b 2).bind (DataW.trod enc Tryz.prog w base spare held n 28)=some y):
 ∃x:ActM,WordsAt w x.v x.ws/\x.wait<=65535/\w.cell? b=some x.v/\w.cell? (b.add 1)=some (.int .u16 x.wait):=by
 rw[Option.bind_eq_some_iff] at h
 obtain⟨cs,hcs,hy⟩:=h
 obtain⟨xs,m,_,_,_,hxl,hx⟩:=DataW.trod_struct Tryz.underlying28 hy
 obtain⟨u,v,rfl,e0,e1⟩:=cells_two hcs
 have h0:DataW.trod enc Tryz.prog w base spare held m 23 (([u,v].drop 0).take (Tryz.prog.cellsOf 23))=xs[0]? :=hx 0 _ rfl
 have h1:DataW.trod enc Tryz.prog w base spare held m 26 (([u,v].drop 1).take (Tryz.prog.cellsOf 26))=xs[1]? :=hx 1 _ rfl
 have k0:Tryz.prog.cellsOf 23=1:=by kernel_rfl
 have k1:Tryz.prog.cellsOf 26=1:=by kernel_rfl
 rw[k0] at h0
 rw[k1] at h1
 have hs:xs.length=2:=hxl
 rw[List.getElem?_eq_getElem (by omega)] at h0 h1
 obtain⟨v0,ws,hv0,hw⟩:=open_words (cs:=[u]) hcap h0
 obtain⟨nn,hv1,_,hwf⟩:=DataW.trod_int (cs:=[v]) Tryz.underlying26 h1
 simp only[List.cons.injEq,and_true] at hv0 hv1
 subst hv0;subst hv1
 have hb:0<=nn/\nn<=65535:=by
  simp only[Lit.wf,Bool.and_eq_true,decide_eq_true_eq] at hwf
  have a1:IntKind.u16.min=0:=by decide
  have a2:IntKind.u16.max=65535:=by decide
  rw[a1,a2] at hwf;exact hwf
 refine⟨⟨u,ws,nn.toNat⟩,hw,by simp only;omega,e0,?_⟩
 show w.cell? (b.add 1)=some (.int .u16 ((nn.toNat:Nat):Int))
 rw[Int.toNat_of_nonneg hb.1];exact e1
theorem open_acts (hcap:maxLen<=capMax) {n:Nat} {cs:List Value} {y:DataW H×List MemPlace} (h:DataW.trod enc Tryz.prog w base spare held n 22 cs=some y):∃v acts,cs=[v]/\ActsAt w v acts:=by
 rcases DataW.trod_slice Tryz.underlying22 h with⟨rfl,_⟩|⟨a,len,cap,elems,rest,n,_,rfl,_,_,hl,hm,hlen,hel,_,_⟩
 ·exact⟨_,[],rfl,none,0,rfl,Nat.le_refl _,Nat.zero_le _,by simp⟩
 ·have hc2:Tryz.prog.cellsOf 28=2:=by kernel_rfl
  rw[hc2] at hel
  have hs:∀i,∃x:ActM,i<len->WordsAt w x.v x.ws/\x.wait<=65535/\w.cell? (a.add (i*2))=some x.v/\w.cell? ((a.add (i*2)).add 1)=some (.int .u16 x.wait):=fun i=>by
   by_cases hi:i<len
   ·have h1:=hel i hi
    rw[List.getElem?_eq_getElem (by omega)] at h1
    obtain⟨x,hx⟩:=open_act hcap h1
    exact⟨x,fun _=>hx⟩
   ·exact⟨⟨.bool false,[],0⟩,fun h=>absurd h hi⟩
  refine⟨_,(List.range len).map fun i=>(hs i).choose,rfl,some a,cap,by simp,by simpa using hl,by unfold maxLen at hm;omega,fun i x hi=>?_⟩
  rw[List.getElem?_map] at hi
  have hil:i<len:=by
   rcases Nat.lt_or_ge i len with h|h
   ·exact h
   ·rw[List.getElem?_eq_none (by simpa using h)] at hi;cases hi
  rw[List.getElem?_eq_getElem (by simpa using hil),Option.map_some,Option.some.injEq,List.getElem_range] at hi
  obtain⟨h1,h2,h3,h4⟩:=(hs i).choose_spec hil
  rw[hi] at h1 h2 h3 h4
  have h00:=((hs 0).choose_spec (by omega)).2.2.1
  obtain⟨va,cc,hv,_⟩:=((hs 0).choose_spec (by omega)).1
  rw[hv] at h00
  generalize (hs 0).choose.ws.length=nn at h00
  obtain⟨g,off,q⟩:=a
  have e:(⟨g,off,q⟩:Addr).add (0*2)=⟨g,off,q⟩:=rfl
  have h01:w.cell? ⟨g,off,q⟩=some (.slice va nn cc):=h00
  obtain rfl:q=none:=World.cell?_spot h01
  rw[addr_add] at h3
  rw[addr_add,addr_add] at h4
  exact⟨h1,h2,g,off,rfl,cell_small h3,h3,h4⟩
end
end Go.Proofs.YtlbjfafbahphgaaGreatDoor
namespace Go.Proofs.YtlbjfafbahphgaaGreatDoor
open Go Go.RowKit
variable {w0 w:World}{l r:Hp}{sb B:Nat}{S:St}{now:Int}{o:Res}
theorem FAll.gl (h:FAll w0):Glob w0:=h.1
structure Rest (w0:World) (w:World) (l r:Hp) (sb:Nat) (S:St) (B:Nat):Prop where
 st:Step w0 [] w (l++r)
 is:IsStore l sb S
 ok:Tight S/\DUp S/\S.ev=[]/\S.bud=B
theorem IsStore.fit (h:IsStore l sb S):Fit S:=by obtain⟨_,_,_,hf⟩:=h;exact hf
theorem load_of (hf:Fit S) (hT:Tight S) (he:S.ev=[]):S.load<=1000000000000:=by
 have h1:=bytes_ge S.L
 have h2:=hf.bud
 unfold Tight at hT
 unfold St.load
 rw[he,List.length_nil]
 omega
theorem RunAny.next {w':World} {ws:List ByteArray} {e:Ending} (h:RunAny w0 r sb (Out S now ws) e w') (hf:Fit S) (hT:Tight S) (hD:DUp S) (hn:0<=now):
 ∃(o:Res) (a:Option Addr) (c:Nat) (ev:Value) (l' xl el:Hp),e= .returned (.tuple #[ansVal o.kd o.tx o.nn (.slice a o.xs.length c),ev])/\Out S now ws o/\EvOk (·∈keysOf (wcheck ws).1 (ws.drop 1)) S o.st/\SliceHp 2 41 ev o.st.ev.length (evCells o.st.ev) el/\IsLfs (.slice a o.xs.length c) o.xs xl/\Rest w0 w' l' (xl++(el++r)) sb {o.st with ev:=[]} S.bud:=by
 obtain⟨o,ho,a,c,ev,xl,el,l',he,h1,h2,h3,h4⟩:=h
 have hm:=out_mv ho hf
 have hk:=hm.ok hf hT
 have hd:DUp o.st:=hm.dup hn hD
 exact⟨o,a,c,ev,l',xl,el,he,ho,hm.ev,h2,h1,⟨h4,h3,⟨hk.2,hd,rfl,hm.bud⟩⟩⟩
theorem Rest.gone {x y:Hp} (h:Rest w0 w l (x++(y++r)) sb S B):Rest w0 w l r sb S B:=
 ⟨h.st.pick (l2:=l++r) (m:=x++y) (perm_by fun f=>by simp only[SC];omega),h.is,h.ok⟩
theorem Args.in_ {g off:Nat} {ws:List ByteArray} (hg:g<w0.heap.size) (h:∀i s,ws[i]? =some s->w0.cell? ⟨g,off+i,none⟩=some (.string s)) (hs:∀s∈ws,s.size<=4500) (hf:ws.length<=70):Args w0 r g off ws:=
 ⟨fun _ _ hS i s hi=>hS.in_ hg (h i s hi),fun s hs2=>by have:=hs s hs2;omega,by omega⟩
theorem run_act (hF:FAll w0) (h:Rest w0 w l r sb S B) {v:Value} {ws:List ByteArray} (hw:WordsAt w0 v ws) (hfew:ws.length<=70/\∀s∈ws,s.size<=4500) (now:Int) (hnow:0<=now/\now<=4611686018427387904):
 Calls Tryz.prog 9 #[ptr sb,.int .i64 now,v] w (RunAny w0 r sb (Out S now ws)):=by
 obtain⟨a,cap,rfl,h1,h2,h3⟩:=hw
 cases ws with
 |nil=>exact run_none h.st h.is now a cap
 |cons c ws=>
  obtain⟨_,g,off,rfl,hg,_⟩:=h3 0 c rfl
  have hc:∀i s,(c::ws)[i]? =some s->w0.cell? ⟨g,off+i,none⟩=some (.string s):=fun i s hi=>by
   obtain⟨_,g2,off2,he,_,hc⟩:=h3 i s hi
   simp only[Option.some.injEq,Addr.mk.injEq] at he
   rw[he.1,he.2.1];exact hc
  exact run_some ⟨h.st,hF.gl,h.is,h.ok.1,load_of h.is.fit h.ok.1 h.ok.2.2.1,.in_ hg hc hfew.2 hfew.1⟩ hF h.ok.2.1.ok now hnow cap h1 h2
theorem run_new (hF:FAll w0) (h:Rest w0 w l r sb S B) (c:ByteArray) (ws:List ByteArray) (hfew:(c::ws).length<=70) (hs:∀s∈(c::ws),s.size<=1099511627776) (now:Int) (hnow:0<=now/\now<=4611686018427387904):
 Calls Tryz.prog 9 #[ptr sb,.int .i64 now,.slice (some ⟨w.heap.size,0,none⟩) (c::ws).length (c::ws).length] (w.alloc (WsObj (c::ws))) (RunAny w0 r sb (Out S now (c::ws))):=
 (run_some (Ctx.call h.st hF.gl h.is h.ok.1 (load_of h.is.fit h.ok.1 h.ok.2.2.1) (c::ws) hs (by omega)) hF h.ok.2.1.ok now hnow _ (Nat.le_refl _) (by unfold capMax;omega)).mono
  fun _ _ ⟨o,ho,q⟩=>⟨o,ho,q.letGo⟩
theorem Out.ran {c:ByteArray} {ws:List ByteArray} {sp:Sp} (h:Out S now (c::ws) o) (hc:wcheck (c::ws)=(sp,ByteArray.empty)) (hk:isKeys (sp,ByteArray.empty)=true):Ran S now sp ws o:=by
 unfold Out at h
 rw[hc,hk,if_pos rfl,if_pos rfl] at h
 obtain⟨c',rest,he,h⟩:=h
 obtain⟨_,rfl⟩:=List.cons.inj he
 exact h
theorem ran_DBSIZE {ws:List ByteArray} (h:Ran S now spDBSIZE ws o):o=resLf (eSize S):=by
 cases h<;>first
  |rfl
  |exact absurd (congrArg (fun s=>s.name.data.toList) ‹spDBSIZE=_›) (by decide)
  |exact absurd ‹spDBSIZE∈hashes› (by rw[hashes];simp only[List.mem_cons,List.not_mem_nil,or_false];intro h;rcases h with h|h|h|h|h|h|h|h<;>exact absurd (congrArg (fun s=>s.name.data.toList) h) (by decide))
theorem ran_EXISTS {ws:List ByteArray} (h:Ran S now spEXISTS ws o):o=resLf (eExists S now ws):=by
 cases h<;>first
  |rfl
  |exact absurd (congrArg (fun s=>s.name.data.toList) ‹spEXISTS=_›) (by decide)
  |exact absurd ‹spEXISTS∈hashes› (by rw[hashes];simp only[List.mem_cons,List.not_mem_nil,or_false];intro h;rcases h with h|h|h|h|h|h|h|h<;>exact absurd (congrArg (fun s=>s.name.data.toList) h) (by decide))
theorem ran_DEL {ws:List ByteArray} (h:Ran S now spDEL ws o):o=resLf (eDel S now ws):=by
 cases h<;>first
  |rfl
  |exact absurd (congrArg (fun s=>s.name.data.toList) ‹spDEL=_›) (by decide)
  |exact absurd ‹spDEL∈hashes› (by rw[hashes];simp only[List.mem_cons,List.not_mem_nil,or_false];intro h;rcases h with h|h|h|h|h|h|h|h<;>exact absurd (congrArg (fun s=>s.name.data.toList) h) (by decide))
end Go.Proofs.YtlbjfafbahphgaaGreatDoor
namespace Go.Proofs.YtlbjfafbahphgaaGreatDoor
open Go Go.RowKit Go.Shelf Go.Sort
variable {w:World}
theorem sort_c (blk off cap:Nat) (zs:List (List UInt8)) (w:World) (hH:Holds encStr w blk off zs.toArray) (hblk:blk<w.heap.size) (hsz:zs.length<4611686018427387904):
 Calls Tryz.prog 30 #[.slice (some ⟨blk,off,none⟩) zs.length cap] w fun e w'=>
  e= .returned (.tuple #[])/\∃n os,w'=grow (putRow encStr (Sort.ahead w n) blk off (zs.mergeSort fun x y=>decide (x<=y)).toArray) os:=
 calls_of_every_depth fun D=>AnyS.slices_Sort_string_alone Tryz.laysSort D blk off cap zs w hH hblk hsz
theorem Step.mapB {w':World} {l l':Hp} {b:Nat} {cs:Array Value} {t:TypeId} {fr:Nat×Nat} (h:Step w l w' ((b,.cells cs t fr)::l')) (f:Array Value->Array Value):
 Step w l (mapBlock w' b f) ((b,.cells (f cs) t fr)::l'):=by
 have hb:=h.own.head
 refine h.put (by show(w'.heap.modify b (onCells f)).size=_;rw[Array.size_modify]) ?_ (fun k hk=>?_) rfl rfl
 ·show(w'.heap.modify b (onCells f))[b]? =_
  rw[Array.getElem?_modify,if_pos rfl,hb];rfl
 ·show(w'.heap.modify b (onCells f))[k]? =_
  rw[Array.getElem?_modify,if_neg (Ne.symm hk)]
theorem sort_any {w0:World} {r sl:Hp} {v:Value} {ks:List ByteArray} (hS:Step w0 [] w (sl++r)) (hv:SliceHp 1 9 v ks.length (ks.map Value.string) sl) (hl:ks.length<=1000000000000) (h0:ks≠[]):
 Calls Tryz.prog 30 #[v] w fun e w'=>e= .returned (.tuple #[])/\∃(ks':List ByteArray) (sl':Hp),ks'.Perm ks/\SliceHp 1 9 v ks.length (ks'.map Value.string) sl'/\Step w0 [] w' (sl'++r):=by
 obtain⟨n,hn⟩:∃n,n=ks.length:=⟨_,rfl⟩
 obtain⟨xs,hx⟩:∃xs,xs=ks.map Value.string:=⟨_,rfl⟩
 rw[<-hn,<-hx] at hv
 have hgoal:∀ks':List ByteArray,ks'.map Value.string=ks'.map Value.string:=fun _=>rfl
 cases hv with
 |nil=>exact absurd (List.eq_nil_of_length_eq_zero hn.symm) h0
 |laid g _ cap _ rest h1 h2 h3 h4=>
  subst hx
  obtain⟨zs,hz⟩:∃zs:List (List UInt8),zs=ks.map fun s=>s.data.toList:=⟨_,rfl⟩
  have hzl:zs.length=ks.length:=by rw[hz,List.length_map]
  have hzk:∀j,j<ks.length->encStr (zs.toArray[j]!)=Value.string ks[j]! :=fun j hj=>by
   rw[getElem!_pos zs.toArray j (by simp;omega),getElem!_pos ks j hj]
   simp[hz,encStr]
  have hb:w.heap[g]? =some (.cells (ks.map Value.string++rest).toArray 9 (0,0)):=hS.own.head
  have hH:Holds encStr w g 0 zs.toArray:=fun j hj=>by
   have hj':j<ks.length:=by simpa[hzl] using hj
   refine⟨?_,cells_free hb _⟩
   rw[Nat.zero_add,hzk j hj',cells_get hb,List.getElem?_toArray,List.getElem?_append_left (by simpa using hj'),List.getElem?_map,List.getElem?_eq_getElem hj',getElem!_pos ks j hj']
   rfl
  have hc:=sort_c g 0 cap zs w hH (block_lt hb) (by omega)
  rw[hzl,<-hn] at hc
  obtain⟨ys,hys⟩:∃ys:List (List UInt8),ys=List.mergeSort zs (fun x y=>decide (x<=y)):=⟨_,rfl⟩
  rw[<-hys] at hc
  have hperm:ys.Perm zs:=by rw[hys];exact List.mergeSort_perm _ _
  have hyl:ys.length=ks.length:=by rw[hperm.length_eq,hzl]
  refine hc.mono ?_
  rintro e w' ⟨rfl,n2,os,rfl⟩
  have hzb:(zs.map fun l:List UInt8=>(⟨l.toArray⟩:ByteArray))=ks:=by
   rw[hz,List.map_map]
   conv=>rhs;rw[<-List.map_id ks]
   refine List.map_congr_left fun s _=>?_
   simp
  refine⟨rfl,ys.map (fun l:List UInt8=>(⟨l.toArray⟩:ByteArray)),[(g,.cells (((ys.map (fun l:List UInt8=>(⟨l.toArray⟩:ByteArray))).map Value.string)++rest).toArray 9 (0,0))],by rw[<-hzb];exact hperm.map _,hn▸ .laid g n cap ((ys.map (fun l:List UInt8=>(⟨l.toArray⟩:ByteArray))).map Value.string) rest (by rw[List.length_map,List.length_map];omega) h2 h3 h4,?_⟩
  have hs:=((hS.drewN n2).mapB (Go.Sort.putCells encStr 0 ys.toArray))
  have e1:Go.Sort.putCells encStr 0 ys.toArray (ks.map Value.string++rest).toArray=((ys.map (fun l:List UInt8=>(⟨l.toArray⟩:ByteArray))).map Value.string++rest).toArray:=by
   apply Array.ext_getElem?
   intro k
   simp only[Go.Sort.putCells,Array.getElem?_mapIdx,List.getElem?_toArray,Nat.zero_le,true_and,Nat.zero_add,List.size_toArray,Nat.sub_zero]
   by_cases hk:k<ys.length
   ·rw[List.getElem?_append_left (l₁:=ks.map Value.string) (by rw[List.length_map];omega),List.getElem?_append_left (l₁:=(ys.map (fun l:List UInt8=>(⟨l.toArray⟩:ByteArray))).map Value.string) (by rw[List.length_map,List.length_map];omega),List.getElem?_map,List.getElem?_map,List.getElem?_map,List.getElem?_eq_getElem (l:=ks) (by omega),List.getElem?_eq_getElem (l:=ys) hk]
    simp only[Option.map_some,if_pos hk]
    rw[getElem!_pos ys.toArray k (by simpa using hk)]
    simp[encStr]
   ·rw[List.getElem?_append_right (l₁:=ks.map Value.string) (by rw[List.length_map];omega),List.getElem?_append_right (l₁:=(ys.map (fun l:List UInt8=>(⟨l.toArray⟩:ByteArray))).map Value.string) (by rw[List.length_map,List.length_map];omega)]
    simp only[List.length_map,hyl,if_neg hk]
    have hk2:¬k<ks.length:=by omega
    cases rest[k - ks.length]? <;>simp[hk2]
  rw[e1] at hs
  have hs2:=hs.growN 0 os
  exact hs2
theorem sort_all {w0:World} {r sl:Hp} {v:Value} {ks:List ByteArray} (hS:Step w0 [] w (sl++r)) (hv:SliceHp 1 9 v ks.length (ks.map Value.string) sl) (hl:ks.length<=1000000000000):
 Calls Tryz.prog 30 #[v] w fun e w'=>e= .returned (.tuple #[])/\∃(ks':List ByteArray) (sl':Hp),ks'.Perm ks/\SliceHp 1 9 v ks.length (ks'.map Value.string) sl'/\Step w0 [] w' (sl'++r):=by
 by_cases h0:ks=[]
 ·subst h0
  have hv0:=hv
  obtain⟨n,hn⟩:∃n,n=([]:List ByteArray).length:=⟨_,rfl⟩
  obtain⟨xs,hx⟩:∃xs,xs=([]:List ByteArray).map Value.string:=⟨_,rfl⟩
  rw[<-hn,<-hx] at hv
  have hsh:∃p cap,v= .slice p 0 cap:=by
   cases hv with
   |nil=>exact⟨_,_,rfl⟩
   |laid g _ cap _ rest h1 h2 h3 h4=>exact⟨_,cap,by rw[hn];rfl⟩
  obtain⟨p,cap,rfl⟩:=hsh
  have hc:Calls Tryz.prog 30 #[.slice p 0 cap] w fun e w'=>e= .returned (.tuple #[])/\w'=w:=calls_of_every_depth fun D=>AnyS.slices_Sort_string_none_alone Tryz.laysSort D p cap w
  refine hc.mono ?_
  rintro e w' ⟨rfl,rfl⟩
  exact⟨rfl,[],sl,.refl _,hv0,hS⟩
 ·exact sort_any hS hv hl h0
end Go.Proofs.YtlbjfafbahphgaaGreatDoor
namespace Go.Proofs.YtlbjfafbahphgaaGreatDoor
open Go Go.RowKit
abbrev IsWs (v:Value) (ws:List ByteArray) (sl:Hp):Prop:=SliceHp 1 9 v ws.length (ws.map Value.string) sl
theorem strInfo:(Tryz.prog.info? 9).map (fun i=>(i.zero,i.size,i.bytes))=some (some (.string ByteArray.empty),1,16):=by kernel_rfl
theorem IsWs.form {v:Value} {ws:List ByteArray} {sl:Hp} (h:IsWs v ws sl) (hne:ws≠[]):
 ∃g c rest,v= .slice (some ⟨g,0,none⟩) ws.length c/\sl=[(g,.cells (ws.map Value.string++rest).toArray 9 (0,0))]/\ws.length<=c/\c<=9223372036854775807:=by
 obtain⟨n,hn⟩:∃n,n=ws.length:=⟨_,rfl⟩
 obtain⟨xs,hx⟩:∃xs,xs=ws.map Value.string:=⟨_,rfl⟩
 unfold IsWs at h
 rw[<-hn,<-hx] at h
 cases h with
 |nil=>exact absurd (List.length_eq_zero_iff.1 hn.symm) hne
 |laid g n cap xs rest h1 h2 h3 h4=>
  subst hx
  rw[hn]
  exact⟨g,cap,rest,rfl,rfl,by omega,h4⟩
theorem IsWs.one (g:Nat) (s:ByteArray):IsWs (.slice (some ⟨g,0,none⟩) 1 1) [s] [(g,WsObj [s])]:=
 .laid g 1 1 [.string s] [] rfl rfl (Nat.le_refl _) (by unfold maxLen;omega)
theorem Args.ws {w0:World} {r:Hp} {g:Nat} {ws:List ByteArray} {rest:List Value} {t:TypeId} (hm:(g,.cells (ws.map Value.string++rest).toArray t (0,0))∈r) (hs:∀s∈ws,s.size<=1099511627776) (hf:ws.length<=1099511627776):Args w0 r g 0 ws where
 at_:=fun w' x hS i s hi=>by
  have hh:w'.heap[g]? =some (.cells (ws.map Value.string++rest).toArray t (0,0)):=hS.own.at_ (g,.cells (ws.map Value.string++rest).toArray t (0,0)) (List.mem_append_right _ hm)
  have hlt:i<(ws.map Value.string).length:=by
   rw[List.length_map];exact(List.getElem?_eq_some_iff.1 hi).1
  rw[Nat.zero_add,cells_get hh,List.getElem?_toArray,List.getElem?_append_left hlt,List.getElem?_map,hi];rfl
 small:=hs
 few:=hf
theorem push_ws {w0 w:World} {sl r:Hp} {va:Option Addr} {k c:Nat} {ws:List ByteArray} {nb:Nat} (hS:Step w0 [] w (sl++r)) (hsl:IsWs (.slice va k c) ws sl) (hk:ws.length=k) (hB:k<=1000000000) (news:List ByteArray) (h0:0<news.length) (h1:news.length<=1000) (hm:(nb,WsObj news)∈r):
 ∃va' c' w' sl',(Builtin.append_ #[23,23] 23 #[.slice va k c,.slice (some ⟨nb,0,none⟩) news.length news.length]).run Tryz.prog w= .ok (.slice va' (k+news.length) c') w'/\IsWs (.slice va' (k+news.length) c') (ws++news) sl'/\Step w0 [] w' (sl'++r):=by
 have hh:=hS.own.right.at_ _ hm
 obtain⟨v',w',sl',hrun,hsl',S',_⟩:=run_append (P:=Tryz.prog) (ty:=23) Tryz.underlying23 Tryz.underlying23 strInfo rfl (by decide) hS hsl
  ⟨nb,0,none⟩ news.length news.length (news.map Value.string) (by simp) (by
   intro j u hu
   rw[addr_add,Nat.zero_add,cells_get hh,<-hu,List.getElem?_toArray]) (by
   intro u hu
   obtain⟨s,_,rfl⟩:=List.mem_map.1 hu
   rfl) h0 (by rw[hk];omega) (by rw[hk];unfold maxLen;omega)
 obtain⟨g,c',rest,hv,_,_,_⟩:=IsWs.form (v:=v') (ws:=ws++news) (sl:=sl') (by
  unfold IsWs
  rw[List.length_append,List.map_append]
  exact hsl') (by intro e;rw[List.append_eq_nil_iff] at e;rw[e.2] at h0;simp at h0)
 rw[List.length_append,hk] at hv
 subst hv
 rw[hk] at hsl'
 refine⟨_,c',w',sl',hrun,?_,S'⟩
 unfold IsWs
 rw[List.length_append,List.map_append,hk]
 exact hsl'
end Go.Proofs.YtlbjfafbahphgaaGreatDoor
