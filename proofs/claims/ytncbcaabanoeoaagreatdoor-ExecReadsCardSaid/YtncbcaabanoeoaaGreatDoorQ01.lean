/-
The heap as owned parts: a part is a list of blocks with what they hold; a call changes the parts that it owns and lays new blocks; all else stays.
-/
import Derived.BigQuiet
import Derived.Deep.QuietTactic
import Derived.Deep.RegionWith
import Derived.Great.BuildSlice
import Derived.Handy
import Derived.Laws.Externs
import Derived.Lib.Bytealg
import Derived.Lib.LazyBuf
import Derived.StillTailTactics
import Derived.WalkKit
import Derived.WalkLawsBesides
import Derived.Test.YtncbcaabanoeoaaGreatDoorProg
set_option linter.unusedVariables false
set_option linter.unusedSimpArgs false
set_option maxRecDepth 100000
set_option maxHeartbeats 8000000
namespace Go.Proofs.YtncbcaabanoeoaaGreatDoor
open Go Go.RowKit
variable {p:Nat × Obj}{w w2 w' w0:World}{b:Nat}{o:Obj}{cs:Array Value}{t:TypeId}{fr:Nat × Nat}{a k:ByteArray}{P:Program}{v:Value}{xs:List Value}
theorem hid {p:Prop} (h:p):Hid p:=h
abbrev Hp:=List (Nat×Obj)
variable {l r l' l2:Hp}
def keys (l:Hp):List Nat:=l.map Prod.fst
@[simp] theorem Jzr:keys []=[]:=rfl
@[simp] theorem J0y (p:Nat×Obj) (l:Hp):keys (p::l)=p.1::keys l:=rfl
@[simp] theorem J1h (l r:Hp):keys (l++r)=keys l++keys r:=by simp[keys]
structure Own (w:World) (l:Hp):Prop where
 at_:∀p∈l,w.heap[p.1]? =some p.2
 nd:(keys l).Nodup
theorem Own.nil (w:World):Own w []:=⟨by simp,by simp⟩
theorem Own.lt (h:Own w l) (hb:b∈keys l):b<w.heap.size:=by
 simp only[keys,List.mem_map] at hb;obtain⟨p,hp,rfl⟩:=hb
 exact(Array.getElem?_eq_some_iff.1 (h.at_ p hp)).1
theorem Own.head (h:Own w ((b,o)::l)):w.heap[b]? =some o:=h.at_ (b,o) (by simp)
theorem Own.tail (h:Own w (p::l)):Own w l:=
 ⟨fun q hq=>h.at_ q (by simp[hq]),by have:=h.nd;simp at this;exact this.2⟩
theorem Own.left (h:Own w (l++r)):Own w l:=
 ⟨fun q hq=>h.at_ q (by simp[hq]),by have:=h.nd;rw[J1h,List.nodup_append] at this;exact this.1⟩
theorem Own.right (h:Own w (l++r)):Own w r:=
 ⟨fun q hq=>h.at_ q (by simp[hq]),by have:=h.nd;rw[J1h,List.nodup_append] at this;exact this.2.1⟩
theorem Own.disj (h:Own w (l++r)) (hl:b∈keys l) (hr:b∈keys r):False:=by
 have:=h.nd
 rw[J1h,List.nodup_append] at this;exact this.2.2 b hl b hr rfl
theorem Own.perm (h:Own w l) (p:l.Perm l'):Own w l':=
 ⟨fun q hq=>h.at_ q (p.mem_iff.2 hq),(p.map Prod.fst).nodup_iff.1 h.nd⟩
theorem Own.append (hl:Own w l) (hr:Own w r) (hd:∀b,b∈keys l->b∈keys r->False):Own w (l++r):=
 ⟨fun q hq=>by
  rw[List.mem_append] at hq;rcases hq with hq|hq
  ·exact hl.at_ q hq
  ·exact hr.at_ q hq,by rw[J1h,List.nodup_append];exact⟨hl.nd,hr.nd,fun a ha b hb e=>hd a ha (e▸hb)⟩⟩
theorem Own.sub (h:Own w l) (p:l'.Sublist l):Own w l':=
 ⟨fun q hq=>h.at_ q (p.subset hq),(p.map Prod.fst).nodup h.nd⟩
structure J3 (w:World) (l:Hp) (w':World) (l':Hp):Prop where
 os:w'.os=w.os
 output:w'.output=w.output
 size:w.heap.size<=w'.heap.size
 own:Own w' l'
 same:∀b,b<w.heap.size->b∉keys l->w'.heap[b]? =w.heap[b]?
 new:∀b,b∈keys l'->b∈keys l\/w.heap.size<=b
theorem J3.refl (h:Own w l):J3 w l w l:=
 ⟨rfl,rfl,Nat.le_refl _,h,fun _ _ _=>rfl,fun _ h=>.inl h⟩
theorem J3.trans {w1:World} {l1:Hp} (h:J3 w l w1 l1) (k:J3 w1 l1 w2 l2):J3 w l w2 l2 where
 os:=k.os.trans h.os
 output:=k.output.trans h.output
 size:=Nat.le_trans h.size k.size
 own:=k.own
 same b hb hn:=by
  have h1:b∉keys l1:=fun hm=>by
   rcases h.new b hm with h|h
   ·exact hn h
   ·omega
  rw[k.same b (Nat.lt_of_lt_of_le hb h.size) h1,h.same b hb hn]
 new b hb:=by
  rcases k.new b hb with h'|h'
  ·exact h.new b h'
  ·exact .inr (Nat.le_trans h.size h')
theorem J3.beside (h:J3 w l w' l') (ho:Own w (l++r)):Own w' (l'++r):=by
 refine h.own.append ⟨fun q hq=>?_,ho.right.nd⟩ ?_
 ·have hk:q.1∈keys r:=List.mem_map_of_mem hq
  rw[h.same q.1 (ho.right.lt hk) (fun hl=>ho.disj hl hk)]
  exact ho.at_ q (by simp[hq])
 ·intro b hb hr
  rcases h.new b hb with h'|h'
  ·exact ho.disj h' hr
  ·have:=ho.right.lt hr;omega
theorem J3.frame (h:J3 w l w' l') (ho:Own w (l++r)):J3 w (l++r) w' (l'++r) where
 os:=h.os
 output:=h.output
 size:=h.size
 own:=h.beside ho
 same b hb hn:=h.same b hb (fun hm=>hn (by simp[hm]))
 new b hb:=by
  rw[J1h,List.mem_append] at hb;rcases hb with hb|hb
  ·rcases h.new b hb with h'|h'
   ·exact .inl (by simp[h'])
   ·exact .inr h'
  ·exact .inl (by simp[hb])
theorem J3.less (h:J3 w l w' l') (s:l2.Sublist l'):J3 w l w' l2:=
 ⟨h.os,h.output,h.size,h.own.sub s,h.same,fun b hb=>h.new b ((s.map Prod.fst).subset hb)⟩
theorem J3.permR (h:J3 w l w' l') (p:l'.Perm l2):J3 w l w' l2:=
 ⟨h.os,h.output,h.size,h.own.perm p,h.same,fun b hb=>h.new b ((p.map Prod.fst).mem_iff.2 hb)⟩
theorem J3.alloc (h:J3 w l w' l') (o:Obj):J3 w l (w'.alloc o) ((w'.heap.size,o)::l'):=by
 have hk:∀b,b<w'.heap.size->(w'.alloc o).heap[b]? =w'.heap[b]? :=fun b hb=>by
  show(w'.heap.push o)[b]? =_
  rw[Array.getElem?_push,if_neg (by omega)]
 refine⟨h.os,h.output,by have:=h.size;simp;omega,⟨?_,?_⟩,?_,?_⟩
 ·intro p hp
  rcases List.mem_cons.1 hp with rfl|hp
  ·show(w'.heap.push o)[w'.heap.size]? =_
   simp
  ·rw[hk p.1 (h.own.lt (List.mem_map_of_mem hp))]
   exact h.own.at_ p hp
 ·rw[J0y,List.nodup_cons]
  exact⟨fun hm=>Nat.lt_irrefl _ (h.own.lt hm),h.own.nd⟩
 ·intro b hb hn
  rw[hk b (Nat.lt_of_lt_of_le hb h.size),h.same b hb hn]
 ·intro b hb
  rw[J0y] at hb;rcases List.mem_cons.1 hb with rfl|hb
  ·exact .inr h.size
  ·exact h.new b hb
theorem J3.heap (h:J3 w l w' l') (hh:w2.heap=w'.heap) (ho:w2.os=w'.os) (hp:w2.output=w'.output):J3 w l w2 l':=
 ⟨ho.trans h.os,hp.trans h.output,by rw[hh];exact h.size,⟨fun p hp=>by rw[hh];exact h.own.at_ p hp,h.own.nd⟩,fun b hb hn=>by rw[hh];exact h.same b hb hn,h.new⟩
theorem J3.drew (h:J3 w l w' l'):J3 w l w'.drew l':=h.heap rfl rfl rfl
theorem J3.put {o':Obj} (h:J3 w l w' ((b,o)::l')) (hs:w2.heap.size=w'.heap.size) (hb:w2.heap[b]? =some o')
 (hk:∀k,k≠b->w2.heap[k]? =w'.heap[k]?) (ho:w2.os=w'.os) (hp:w2.output=w'.output):J3 w l w2 ((b,o')::l'):=by
  have hnd:=h.own.nd;rw[J0y,List.nodup_cons] at hnd;refine⟨ho.trans h.os,hp.trans h.output,by rw[hs];exact h.size,⟨?_,by rw[J0y,List.nodup_cons];exact hnd⟩,?_,fun k hk=>h.new k hk⟩
  ·intro p hp
   rcases List.mem_cons.1 hp with rfl|hp
   ·exact hb
   ·have hm:p.1∈keys l':=List.mem_map_of_mem hp
    rw[hk p.1 (fun e=>hnd.1 (e▸hm))]
    exact h.own.at_ p (by simp[hp])
  ·intro k hkk hn
   have:k≠b:=by
    rintro rfl;rcases h.new k (by simp) with h'|h'
    ·exact hn h'
    ·omega
   rw[hk k this,h.same k hkk hn]
theorem Jcs {i:Nat} (v:Value) (h:w.heap[b]? =some (.cells cs t fr)):
 (w.setCell ⟨b,i,none⟩ v).heap[b]? =some (.cells (cs.setIfInBounds i v) t fr):=by
 simp only[World.setCell,Array.getElem?_modify,if_true,h];simp
theorem J3.set (h:J3 w l w' ((b,.cells cs t fr)::l')) (i:Nat) (v:Value):
 J3 w l (w'.setCell ⟨b,i,none⟩ v) ((b,.cells (cs.setIfInBounds i v) t fr)::l'):=
 h.put (by simp) (Jcs v h.own.head) (fun k hk=>Below.heap_setCell _ _ _ _ hk) rfl rfl
theorem J3.set2 (h:J3 w l w' (p::(b,.cells cs t fr)::l')) (i:Nat) (v:Value):
 J3 w l (w'.setCell ⟨b,i,none⟩ v) (p::(b,.cells (cs.setIfInBounds i v) t fr)::l'):=
 ((h.permR (List.Perm.swap _ _ _)).set i v).permR (List.Perm.swap _ _ _)
theorem J3.set3 {q:Nat×Obj} (h:J3 w l w' (p::q::(b,.cells cs t fr)::l')) (i:Nat) (v:Value):
 J3 w l (w'.setCell ⟨b,i,none⟩ v) (p::q::(b,.cells (cs.setIfInBounds i v) t fr)::l'):=
 (((h.permR (l2:=(b,.cells cs t fr)::p::q::l') ((List.Perm.cons _ (List.Perm.swap _ _ _)).trans (List.Perm.swap _ _ _))).set i v).permR ((List.Perm.swap _ _ _).trans (List.Perm.cons _ (List.Perm.swap _ _ _))))
theorem J3.drewN (h:J3 w l w' l') (n:Nat):J3 w l (w'.drewN n) l':=h.heap rfl rfl rfl
theorem Own.drewN (h:Own w l) (n:Nat):Own (w.drewN n) l:=⟨fun p hp=>by simpa using h.at_ p hp,h.nd⟩
theorem J3.part {w1:World} {m a a':Hp} (h:J3 w l w1 m) (p:m.Perm (a++r)) (k:J3 w1 a w2 a'):J3 w l w2 (a'++r):=
 (h.permR p).trans (k.frame (h.own.perm p))
theorem J3.beginning {m a:Hp} (h:J3 w0 l w m) (k:J3 w [] w' a):J3 w0 l w' (a++m):=
 h.part (a:=[]) (r:=m) (List.Perm.refl _) k
theorem J3.setIn {a c:Hp} (h:J3 w l w' (a++(b,.cells cs t fr)::c)) (i:Nat) (v:Value):
 J3 w l (w'.setCell ⟨b,i,none⟩ v) (a++(b,.cells (cs.setIfInBounds i v) t fr)::c):=
 ((h.permR List.perm_middle).set i v).permR List.perm_middle.symm
theorem J2 (h:w.heap[b]? =some (.cells cs t fr)) (i:Nat):w.cell? ⟨b,i,none⟩=cs[i]? :=by
 simp[World.cell?,h]
theorem Jg (h:w.heap[b]? =some (.cells cs t (0,0))) (i:Nat):w.frozen? ⟨b,i,none⟩=false:=by
 simp[World.frozen?,h]
theorem Jf (h:w.heap[b]? =some o):b<w.heap.size:=(Array.getElem?_eq_some_iff.1 h).1
theorem Jp8 {b:ByteArray} (h:(a.toList==b.toList)=true):a=b:=by
 rw[beq_iff_eq,ByteArray.toList_eq,ByteArray.toList_eq] at h;cases a;cases b;simp only at h;congr 1;exact Array.toList_inj.1 h
theorem Jz1 {b:ByteArray} (h:(a.toList==b.toList)=false):a≠b:=by
 rintro rfl;simp at h
theorem Jbr {b:ByteArray} (h:a=b):(a.toList==b.toList)=true:=by subst h;simp
theorem J6o {b:ByteArray} (h:a≠b):(a.toList==b.toList)=false:=by
 cases hb:(a.toList==b.toList) with
 |false=>rfl
 |true=>exact absurd (Jp8 hb) h
theorem Jbm {f:FuncId} {args:Array Value} (h:Calls P f args w fun e w'=>e= .returned v/\w=w'):
 Calls P f args w fun e w'=>e= .returned v/\w'=w:=h.mono fun _ _ h=>⟨h.1,h.2.symm⟩
theorem Jfo (a b:ByteArray):(a==b)=decide (a=b):=by
 rw[Bool.eq_iff_iff,decide_eq_true_iff];constructor
 ·intro h
  cases a;cases b
  have h':((_:Array UInt8)==_)=true:=h;congr 1
  exact beq_iff_eq.1 h'
 ·rintro rfl
  cases a
  show((_:Array UInt8)==_)=true
  simp
abbrev AL (α:Type):=List (ByteArray×α)
def Je {α:Type} (m:AL α) (k:ByteArray):Option α:=(m.find? (fun p=>decide (p.1=k))).map Prod.snd
def K3 {α:Type} (m:AL α) (k:ByteArray):AL α:=m.filter (fun p=>decide (p.1≠k))
def mset {α:Type} (m:AL α) (k:ByteArray) (v:α):AL α:=m.map (fun p=>if p.1=k then(k,v) else p)
def J2q {α:Type} (m:AL α) (k:ByteArray) (v:α):AL α:=if(Je m k).isSome then mset m k v else m++[(k,v)]
def J2a (o:Obj) (m:AL Value):Prop:=∃es clock,o= .map es clock/\es.toList.map (fun e=>(e.key,e.val))=m.map (fun p=>(Value.string p.1,p.2))
theorem J2a.empty:J2a (.map #[] 0) []:=⟨_,_,rfl,rfl⟩
theorem Jc4 (k:ByteArray):∀(es:List MapEntry) (m:AL Value) (i:Nat),es.map (fun e=>(e.key,e.val))=m.map (fun p=>(Value.string p.1,p.2))->
 Instr.findNow .string (.string k) es i=some ((m.findIdx? (fun p=>decide (p.1=k))).bind fun j=>(m[j]?).map fun p=>(i+j,p.2))
 |[],m,i,h=>by
  cases m with
  |nil=>rfl
  |cons p m=>simp at h
 |e::es,m,i,h=>by
  cases m with
  |nil=>simp at h
  |cons p m=>
   simp only[List.map_cons,List.cons.injEq,Prod.mk.injEq] at h;obtain⟨⟨h1,h2⟩,h3⟩:=h
   have ih:=Jc4 k es m (i+1) h3;simp only[Instr.findNow,h1,Instr.sameNow,Jfo];by_cases hk:k=p.1
   ·subst hk
    simp[List.findIdx?_cons,h2]
   ·have hk':¬p.1=k:=fun e=>hk e.symm
    rw[decide_eq_false hk];simp only[ih,List.findIdx?_cons,decide_eq_false hk',Option.bind_map];simp only[Bool.false_eq_true,if_false,Option.bind_map,Function.comp_def,List.getElem?_cons_succ];congr 1
    congr 1
    funext j
    congr 1
    funext q
    congr 1
    omega
theorem J4n {m:AL Value} {k:ByteArray}:((m.findIdx? (fun p=>decide (p.1=k))).bind fun j=>(m[j]?).map fun p=>p.2)=Je m k:=by
 induction m with
 |nil=>rfl
 |cons p m ih=>
  simp only[List.findIdx?_cons,Je,List.find?_cons] at ih⊢;by_cases hk:p.1=k
  ·simp[hk]
  ·simp[hk,Option.bind_map,Function.comp_def] at ih⊢
   exact ih
section
variable {P:Program} {t k e:TypeId}
theorem J2z (hk:P.underlying k=some .string) {es:Array MapEntry} {m:AL Value} (h:es.toList.map (fun e=>(e.key,e.val))=m.map (fun p=>(Value.string p.1,p.2))) (key:ByteArray) (w:World):
 (Instr.findKey k (.string key) es.toList).run P w= .ok ((m.findIdx? (fun p=>decide (p.1=key))).bind fun j=>(m[j]?).map fun p=>(j,p.2)) w:=by
 unfold Instr.findKey;have:=Jc4 key es.toList m 0 h
 simp only[Nat.zero_add] at this;simp[run_underlying hk,this]
theorem Jet (hk:P.underlying k=some .string) (b:Bool) (n:Nat) (key:ByteArray) (w:World):(Instr.checkKey b (n+1) k (.string key)).run P w= .ok () w:=by
 simp[Instr.checkKey,run_underlying hk]
theorem J2g (hk:P.underlying k=some .string) (b:Bool) (key:ByteArray) (w:World):(Instr.checkKey b 10000 k (.string key)).run P w= .ok () w:=Jet hk b 9999 key w
theorem J5g (ht:P.underlying t=some (.map k e)) (hk:P.underlying k=some .string) {z:Value} (hz:∀w,(zeroValue e).run P w= .ok z w) {w:World} {r:Nat} {o:Obj} {m:AL Value}
 (hr:w.heap[r]? =some o) (hm:J2a o m) (key:ByteArray):
 (Instr.lookup t (.map (some r)) (.string key) true).run P w= .ok (.tuple #[(Je m key).getD z,.bool (Je m key).isSome]) w:=by
 obtain⟨es,clock,rfl,h⟩:=hm
 have hg:(Sem.getObj r Sem.pure).run P w= .ok (.map es clock) w:=by simp[Sem.run,hr]
 have hl:=@J4n m key;unfold Instr.lookup;simp only[Sem.run_bind,run_underlying ht,Result.andThen_ok,Sem.run_pure];rw[show(getObj r:Sem Obj)=Sem.getObj r Sem.pure from rfl,hg];simp only[Sem.run_bind,Result.andThen_ok,Sem.run_pure,J2g hk,J2z hk h];cases hf:(m.findIdx? (fun p=>decide (p.1=key))) with
 |none=>
  rw[hf] at hl;simp only[Option.bind_none] at hl⊢;simp[hz,<-hl]
 |some j=>
  rw[hf] at hl;simp only[Option.bind_some] at hl⊢;have hj:j<m.length:=(List.findIdx?_eq_some_iff_getElem.1 hf).1;rw[List.getElem?_eq_getElem hj] at hl⊢;simp only[Option.map_some] at hl⊢;simp[<-hl]
theorem Jrr (ht:P.underlying t=some (.map k e)) (hk:P.underlying k=some .string) {z:Value} (hz:∀w,(zeroValue e).run P w= .ok z w) {w:World} {r:Nat} {o:Obj} {m:AL Value}
 (hr:w.heap[r]? =some o) (hm:J2a o m) (key:ByteArray):
 (Instr.lookup t (.map (some r)) (.string key) false).run P w= .ok ((Je m key).getD z) w:=by
 obtain⟨es,clock,rfl,h⟩:=hm
 have hg:(Sem.getObj r Sem.pure).run P w= .ok (.map es clock) w:=by simp[Sem.run,hr]
 have hl:=@J4n m key;unfold Instr.lookup;simp only[Sem.run_bind,run_underlying ht,Result.andThen_ok,Sem.run_pure];rw[show(getObj r:Sem Obj)=Sem.getObj r Sem.pure from rfl,hg];simp only[Sem.run_bind,Result.andThen_ok,Sem.run_pure,J2g hk,J2z hk h];cases hf:(m.findIdx? (fun p=>decide (p.1=key))) with
 |none=>
  rw[hf] at hl;simp only[Option.bind_none] at hl⊢;simp[hz,<-hl]
 |some j=>
  rw[hf] at hl;simp only[Option.bind_some] at hl⊢;have hj:j<m.length:=(List.findIdx?_eq_some_iff_getElem.1 hf).1;rw[List.getElem?_eq_getElem hj] at hl⊢;simp only[Option.map_some] at hl⊢;simp[<-hl]
theorem Jfc (n:Nat) (a:ByteArray):Instr.sameBits (n+1) (.string a) (.string a)=true:=by
 simp[Instr.sameBits,Jfo]
theorem Ji8 (a:ByteArray):Instr.sameBits 10000 (.string a) (.string a)=true:=Jfc 9999 a
theorem Jae {m:AL Value} {key:ByteArray} (h:m.findIdx? (fun p=>decide (p.1=key))=none):Je m key=none:=by
 rw[<-J4n,h];rfl
theorem Jaf {m:AL Value} {key:ByteArray} {j:Nat} (h:m.findIdx? (fun p=>decide (p.1=key))=some j):∃hj:j<m.length,Je m key=some (m[j]).2/\(m[j]).1=key:=by
 obtain⟨hj,h1,_⟩:=List.findIdx?_eq_some_iff_getElem.1 h
 exact⟨hj,by rw[<-J4n,h];simp[List.getElem?_eq_getElem hj],by simpa using h1⟩
theorem Jou {α:Type} {m:AL α} {key:ByteArray} {v:α} {j:Nat} (hn:(m.map Prod.fst).Nodup) (hj:j<m.length) (hk:(m[j]).1=key):mset m key v=m.set j (key,v):=by
 apply List.ext_getElem?
 intro i
 simp only[mset,List.getElem?_map,List.getElem?_set];by_cases hij:j=i
 ·subst hij
  simp[hj,hk]
 ·rw[if_neg hij]
  cases hi:m[i]? with
  |none=>rfl
  |some p=>
   have hil:=(List.getElem?_eq_some_iff.1 hi).1;have:p.1≠key:=by
    intro e
    have h1:(m.map Prod.fst)[i]? =(m.map Prod.fst)[j]? :=by simp[hi,e,List.getElem?_eq_getElem hj,hk]
    exact hij ((List.getElem?_inj (by simpa using hil) hn).1 h1).symm
   simp[this]
theorem Jwq {α:Type} {m:AL α} {key:ByteArray} {j:Nat} (hn:(m.map Prod.fst).Nodup) (hj:j<m.length) (hk:(m[j]).1=key):K3 m key=m.eraseIdx j:=by
 induction m generalizing j with
 |nil=>simp at hj
 |cons p m ih=>
  simp only[List.map_cons,List.nodup_cons] at hn;cases j with
  |zero=>
   simp only[List.getElem_cons_zero] at hk;simp only[K3,List.eraseIdx_cons_zero,List.filter_cons,hk];simp only[ne_eq,not_true,decide_false,Bool.false_eq_true,if_false];rw[List.filter_eq_self];intro q hq
   have:q.1≠key:=fun e=>hn.1 (List.mem_map.2 ⟨q,hq,e.trans hk.symm⟩)
   simpa using this
  |succ j=>
   simp only[List.getElem_cons_succ,List.length_cons] at hk hj;have hp:p.1≠key:=fun e=>hn.1 (List.mem_map.2 ⟨_,List.getElem_mem (by omega:j<m.length),hk.trans e.symm⟩)
   simp only[K3,List.eraseIdx_cons_succ,List.filter_cons];simp only[ne_eq,hp,not_false_eq_true,decide_true,if_true];congr 1
   exact ih hn.2 (by omega) hk
theorem Jbc {α:Type} {m:AL α} {key:ByteArray} (h:Je m key=none):K3 m key=m:=by
 rw[K3,List.filter_eq_self];intro p hp
 simp only[Je,Option.map_eq_none_iff,List.find?_eq_none] at h;have:=h p hp
 simpa using this
theorem J64 {α β:Type} (f:α->β):∀(l:List α) (i:Nat),(l.eraseIdx i).map f=(l.map f).eraseIdx i
 |[],_=>rfl
 |a::l,0=>rfl
 |a::l,i+1=>by simp[J64 f l i]
theorem Jjp {w:World} {r:Nat} {o o':Obj} (hr:w.heap[r]? =some o):(w.heap.setIfInBounds r o')[r]? =some o':=by
 have:=(Array.getElem?_eq_some_iff.1 hr).1
 simp[this]
theorem J3.obj {w0 w w2:World} {l l':Hp} {r:Nat} {o o':Obj} (h:J3 w0 l w ((r,o)::l')) (hw:w2={w with heap:=w.heap.setIfInBounds r o'}):J3 w0 l w2 ((r,o')::l'):=by
 subst hw;exact h.put (by simp) (Jjp h.own.head) (fun k hk=>by simp[Array.getElem?_setIfInBounds,Ne.symm hk]) rfl rfl
theorem Jda (ht:P.underlying t=some (.map k e)) (hk:P.underlying k=some .string) {w:World} {r:Nat} {o:Obj} {m:AL Value}
 (hr:w.heap[r]? =some o) (hm:J2a o m) (hn:(m.map Prod.fst).Nodup) (key:ByteArray) (v:Value):
 ∃o',(Instr.mapUpdate t (.map (some r)) (.string key) v).run P w= .ok () {w with heap:=w.heap.setIfInBounds r o'}/\J2a o' (J2q m key v):=by
 obtain⟨es,clock,rfl,h⟩:=hm
 have hg:(Sem.getObj r Sem.pure).run P w= .ok (.map es clock) w:=by simp[Sem.run,hr]
 have hlen:es.size=m.length:=by have:=congrArg List.length h;simpa using this
 have hset:∀o',(setObj r o':Sem Unit).run P w= .ok () {w with heap:=w.heap.setIfInBounds r o'}:=by
  intro o'
  show(Sem.setObj r o' (Sem.pure ())).run P w=_
  simp[Sem.run,hr]
 cases hf:(m.findIdx? (fun p=>decide (p.1=key))) with
 |none=>
  refine⟨.map (es.push {key:=.string key,val:=v,born:=clock}) (clock+1),?_,_,_,rfl,?_⟩
  ·unfold Instr.mapUpdate
   simp only[Sem.run_bind,run_underlying ht,Result.andThen_ok,Sem.run_pure];rw[show(getObj r:Sem Obj)=Sem.getObj r Sem.pure from rfl,hg];simp only[Sem.run_bind,Result.andThen_ok,Sem.run_pure,J2g hk,J2z hk h,hf,Option.bind_none];exact hset _
  ·rw[J2q,Jae hf]
   simp[h]
 |some j=>
  obtain⟨hj,hl,hkj⟩:=Jaf hf
  have hje:j<es.size:=by omega
  have hkey:(es[j]).key= .string key/\(es[j]).val=(m[j]).2:=by
   have h1:(es.toList.map (fun e=>(e.key,e.val)))[j]? =(m.map (fun p=>(Value.string p.1,p.2)))[j]? :=by rw[h]
   simp only[List.getElem?_map,Array.getElem?_toList,Array.getElem?_eq_getElem hje,List.getElem?_eq_getElem hj,Option.map_some,Option.some.injEq,Prod.mk.injEq] at h1;exact⟨h1.1.trans (by rw[hkj]),h1.2⟩
  refine⟨.map (es.modify j fun e=>{e with key:=.string key,val:=v}) clock,?_,_,_,rfl,?_⟩
  ·unfold Instr.mapUpdate
   simp only[Sem.run_bind,run_underlying ht,Result.andThen_ok,Sem.run_pure];rw[show(getObj r:Sem Obj)=Sem.getObj r Sem.pure from rfl,hg];simp only[Sem.run_bind,Result.andThen_ok,Sem.run_pure,J2g hk,J2z hk h,hf,Option.bind_some,List.getElem?_eq_getElem hj,Option.map_some];rw[Array.getElem?_eq_getElem hje];simp only[Option.map_some,Option.getD_some,hkey.1,Instr.keyThatStays,Ji8,if_true,Sem.run_bind,Sem.run_pure,Result.andThen_ok];exact hset _
  ·rw[J2q,hl]
   simp only[Option.isSome_some,if_true,Jou hn hj hkj];apply List.ext_getElem?
   intro i
   have h1:(es.toList.map (fun e=>(e.key,e.val)))[i]? =(m.map (fun p=>(Value.string p.1,p.2)))[i]? :=by rw[h]
   simp only[List.getElem?_map,Array.getElem?_toList,List.getElem?_set,Array.getElem?_modify] at h1⊢;by_cases hij:j=i
   ·subst hij
    simp[hj,hje]
   ·simp only[if_neg hij]
    exact h1
theorem Jp4 (ht:P.underlying t=some (.map k e)) (hk:P.underlying k=some .string) {w:World} {r:Nat} {o:Obj} {m:AL Value} (ty:TypeId)
 (hr:w.heap[r]? =some o) (hm:J2a o m) (hn:(m.map Prod.fst).Nodup) (key:ByteArray) (t2:TypeId):
 ∃o',(Builtin.delete_ #[t,t2] ty #[.map (some r),.string key]).run P w= .ok (.tuple #[]) {w with heap:=w.heap.setIfInBounds r o'}/\J2a o' (K3 m key):=by
 obtain⟨es,clock,rfl,h⟩:=hm
 have hg:(Sem.getObj r Sem.pure).run P w= .ok (.map es clock) w:=by simp[Sem.run,hr]
 have hlen:es.size=m.length:=by have:=congrArg List.length h;simpa using this
 have hset:∀o',(setObj r o':Sem Unit).run P w= .ok () {w with heap:=w.heap.setIfInBounds r o'}:=by
  intro o'
  show(Sem.setObj r o' (Sem.pure ())).run P w=_
  simp[Sem.run,hr]
 cases hf:(m.findIdx? (fun p=>decide (p.1=key))) with
 |none=>
  refine⟨.map es clock,?_,_,_,rfl,?_⟩
  ·unfold Builtin.delete_
   simp only[List.getElem?_toArray,List.getElem?_cons_zero,List.getElem?_cons_succ];simp only[Sem.run_bind,run_underlying ht,Result.andThen_ok,Sem.run_pure];rw[show(getObj r:Sem Obj)=Sem.getObj r Sem.pure from rfl,hg];simp only[Sem.run_bind,Result.andThen_ok,Sem.run_pure,J2g hk,J2z hk h,hf,Option.bind_none,hset]
  ·rw[Jbc (Jae hf)]
   exact h
 |some j=>
  obtain⟨hj,hl,hkj⟩:=Jaf hf
  have hje:j<es.size:=by omega
  refine⟨.map (es.eraseIdxIfInBounds j) clock,?_,_,_,rfl,?_⟩
  ·unfold Builtin.delete_
   simp only[List.getElem?_toArray,List.getElem?_cons_zero,List.getElem?_cons_succ];simp only[Sem.run_bind,run_underlying ht,Result.andThen_ok,Sem.run_pure];rw[show(getObj r:Sem Obj)=Sem.getObj r Sem.pure from rfl,hg];simp only[Sem.run_bind,Result.andThen_ok,Sem.run_pure,J2g hk,J2z hk h,hf,Option.bind_some,List.getElem?_eq_getElem hj,Option.map_some,hset]
  ·rw[Jwq hn hj hkj]
   have e1:(es.eraseIdxIfInBounds j).toList=es.toList.eraseIdx j:=by
    simp[Array.eraseIdxIfInBounds,hje]
   rw[e1,J64,J64,h]
end
theorem J6j {α:Type} {m:AL α} {v:α} (hn:(m.map Prod.fst).Nodup):((J2q m k v).map Prod.fst).Nodup:=by
 unfold J2q;cases h:Je m k with
 |some x=>
  simp only[Option.isSome_some,if_true];have e:(mset m k v).map Prod.fst=m.map Prod.fst:=by
   simp only[mset,List.map_map];apply List.map_congr_left
   intro p _
   simp only[Function.comp];split
   ·rename_i e;exact e.symm
   ·rfl
  rw[e];exact hn
 |none=>
  simp only[Option.isSome_none,Bool.false_eq_true,if_false,List.map_append,List.map_cons,List.map_nil];rw[List.nodup_append];refine⟨hn,by simp,?_⟩
  intro a ha b hb
  simp only[List.mem_cons,List.not_mem_nil,or_false] at hb;subst hb;rintro rfl;obtain⟨p,hp,he⟩:=List.mem_map.1 ha
  simp only[Je,Option.map_eq_none_iff,List.find?_eq_none] at h;exact h p hp (by simpa using he)
theorem J4x {α:Type} {m:AL α} (hn:(m.map Prod.fst).Nodup):((K3 m k).map Prod.fst).Nodup:=(List.filter_sublist.map Prod.fst).nodup hn
inductive SliceHp (k:Nat) (T:TypeId):Value->Nat->List Value->Hp->Prop where
 |nil:SliceHp k T (.slice none 0 0) 0 [] []
 |laid (g n cap:Nat) (xs rest:List Value) (hx:xs.length=n*k) (hr:rest.length=(cap - n)*k) (hn:n<=cap) (hc:cap<=maxLen):
  SliceHp k T (.slice (some ⟨g,0,none⟩) n cap) n xs [(g,.cells (xs++rest).toArray T (0,0))]
theorem SliceHp.len {k:Nat} {T:TypeId} {n:Nat} (h:SliceHp k T v n xs l):xs.length=n*k:=by
 cases h with
 |nil=>simp
 |laid g n cap xs rest hx hr hn hc=>exact hx
theorem J8 {ops:Array Oper} {rest:List Oper} {o:Oper} {a:Act} {Q:Exit->Act->World->Prop} {v':Value} (hgd:o.guard=none) (s x:Operand) (t t2:TypeId)
 (ho:o.op= .call {callee:=.builtin .append,args:=#[s,x],argTypes:=#[t,t2]}) (v vx:Value) (hs:a.eval s=v) (hx:a.eval x=vx)
 (hrun:(Builtin.append_ #[t,t2] o.type #[v,vx]).run P w= .ok v' w') (h:wpList P ops Q rest (a.put o.dst v') w'):wpList P ops Q (o::rest) a w:=by
  refine wpList_plain hgd fun K hK=>?_
  unfold Oper.wp execOp;simp only[ho,resolve,invoke,builtin,Sem.run_bind,Sem.run_pure,Result.andThen_ok,List.map_toArray,List.map_cons,List.map_nil,hs,hx,hrun];exact hK _ _ h
theorem Jh6 {t2 e e2 ty:TypeId} (ht:P.underlying t=some (.slice e)) (ht2:P.underlying t2=some (.slice e2)) (s x:Value) (w:World):
 (Builtin.append_ #[t,t2] ty #[s,x]).run P w=(Builtin.append_ #[t,t] ty #[s,x]).run P w:=by
 cases s<;>simp[Builtin.append_,run_underlying ht,run_underlying ht2]
theorem J69 (z:Array Value) (n:Nat):(Builtin.zeroCells z n).toList.length=n*z.size:=by simp[Builtin.zeroCells]
theorem J1f {t2 e ty e2:TypeId} {z:Value} {k bytes:Nat} (ht:P.underlying t=some (.slice e)) (ht2:P.underlying t2=some (.slice e2))
 (hinfo:(P.info? e).map (fun i=>(i.zero,i.size,i.bytes))=some (some z,k,bytes)) (hzs:z.cells.size=k) (hk:0<k)
 {sl:Hp} {n:Nat} (hS:J3 w0 l w (sl++r)) (hsl:SliceHp k e v n xs sl)
 (a:Addr) (m c:Nat) (news:List Value) (hl:news.length=m*k) (hnews:∀j u,news[j]? =some u->w.cell? (a.add j)=some u) (h1:∀u∈news,u.oneCell'=true)
 (hm:0<m) (hbytes:(n+m)*bytes<=140737488355328) (h63:n+m<=maxLen):
  ∃v' w' sl',(Builtin.append_ #[t,t2] ty #[v,.slice (some a) m c]).run P w= .ok v' w'/\SliceHp k e v' (n+m) (xs++news) sl'/\J3 w0 l w' (sl'++r)/\(∀b,b∈keys sl'->b∈keys sl\/w.heap.size<=b):=by
  obtain⟨i,hi,hz,hsz,hby⟩:=info_parts hinfo
  have hsmall:n+m<=9223372036854775807:=by simp only[maxLen] at h63;omega
  subst hsz;rw[Jh6 ht ht2];have hge:∀old,n+m<=grownCap w (n+m) old e:=fun old=>grownCap_ge w (n+m) old e
  have hcm:∀old,grownCap w (n+m) old e<=maxLen:=fun old=>grownCap_le_maxLen w (n+m) old e h63
  have grow:∀(old:Nat) (sl0:Hp),J3 w0 l w (sl0++r)->xs.length=n*i.size->
   SliceHp i.size e (.slice (some ⟨w.heap.size,0,none⟩) (n+m) (grownCap w (n+m) old e)) (n+m) (xs++news) [(w.heap.size,.cells ((xs++news)++(Builtin.zeroCells z.cells (grownCap w (n+m) old e - (n+m))).toList).toArray e (0,0))]/\
   J3 w0 l (w.drew.alloc (.cells (xs.toArray++news.toArray++Builtin.zeroCells z.cells (grownCap w (n+m) old e - (n+m))) e)) ([(w.heap.size,.cells ((xs++news)++(Builtin.zeroCells z.cells (grownCap w (n+m) old e - (n+m))).toList).toArray e (0,0))]++r):=by
   intro old sl0 hS0 hxl
   refine⟨.laid _ _ _ _ _ ?_ ?_ (hge old) (hcm old),?_⟩
   ·rw[List.length_append,hxl,hl,Nat.add_mul]
   ·rw[J69,hzs]
   ·have e1:(Obj.cells (xs.toArray++news.toArray++Builtin.zeroCells z.cells (grownCap w (n+m) old e - (n+m))) e)= .cells ((xs++news)++(Builtin.zeroCells z.cells (grownCap w (n+m) old e - (n+m))).toList).toArray e (0,0):=by
     congr 1
     apply Array.toList_inj.1
     simp
    rw[e1];have hd:=hS0.drew.alloc (.cells ((xs++news)++(Builtin.zeroCells z.cells (grownCap w (n+m) old e - (n+m))).toList).toArray e (0,0));exact hd.less (List.Sublist.cons_cons _ (List.sublist_append_right _ _))
  cases hsl with
  |nil=>
   have hr:=run_append_nil (P:=P) (ty:=ty) w t e i z ht hi hz a m c news hl hnews hm (by omega) (by rw[hby];simp only[Nat.zero_add] at hbytes;omega)
   have hg:=grow 0 [] hS (by simp)
   simp only[Nat.zero_add,List.nil_append] at hg⊢;refine⟨_,_,_,hr,hg.1,?_,?_⟩
   ·have:=hg.2
    simpa using this
   ·intro b hb;simp at hb;exact .inr (by omega)
  |laid g n cap xs rest hx hr hn hc=>
   have hg:=hS.own.left.head;by_cases hroom:n+m<=cap
   ·have hfit:n*i.size+news.length<=((xs++rest).toArray).size:=by
     rw[hl,List.size_toArray,List.length_append,hx,hr,<-Nat.add_mul,<-Nat.add_mul];exact Nat.mul_le_mul_right _ (by omega)
    have hrun:=run_append_room (P:=P) (ty:=ty) w t e i ht hi g n cap _ hg a m c news hl hnews h1 hroom hfit;have e1:((xs++rest).toArray.toList.take (n*i.size)++news++(xs++rest).toArray.toList.drop (n*i.size+news.length))=(xs++news)++rest.drop news.length:=by
     simp only[<-hx];simp[List.drop_append]
    rw[e1] at hrun;refine⟨_,_,[(g,.cells ((xs++news)++rest.drop news.length).toArray e (0,0))],hrun,.laid g (n+m) cap _ _ ?_ ?_ hroom hc,?_,?_⟩
    ·rw[List.length_append,hx,hl,Nat.add_mul]
    ·rw[List.length_drop,hr,hl,<-Nat.sub_mul];congr 1;omega
    ·exact J3.put hS (by simp[World.setRow]) (setRow_heap w g _ _ e _ hg) (fun k hk=>setRow_other w g k _ hk) rfl rfl
    ·intro b hb;exact .inl (by simpa using hb)
   ·have holds:∀j u,xs[j]? =some u->w.cell? ((⟨g,0,none⟩:Addr).add j)=some u:=by
     intro j u hu
     have hadd:(⟨g,0,none⟩:Addr).add j=⟨g,j,none⟩:=by unfold Addr.add;split<;>simp_all
     rw[hadd,J2 hg];have hj:j<xs.length:=(List.getElem?_eq_some_iff.1 hu).1;simp only[List.getElem?_toArray];rw[List.getElem?_append_left hj,hu]
    have hrun:=run_append_grow (P:=P) (ty:=ty) w t e i z ht hi hz ⟨g,0,none⟩ n cap xs hx holds a m c news hl hnews (by omega) (by omega) (growslice_fits (by omega) (by rw[hby];exact hbytes))
    have hgr:=grow cap _ hS hx;exact⟨_,_,_,hrun,hgr.1,hgr.2,fun b hb=>by simp at hb;exact .inr (by omega)⟩
abbrev Fs:=List (ByteArray×ByteArray)
def J9:Fs->List Value
 |[]=>[]
 |f::fs=>.string f.1:: .string f.2::J9 fs
theorem K7:∀fs:Fs,(J9 fs).length=fs.length*2
 |[]=>rfl
 |f::fs=>by simp only[J9,List.length_cons,K7 fs];omega
theorem J4b:∀(fs:Fs),∀u∈J9 fs,u.oneCell'=true
 |[],u,h=>by cases h
 |f::fs,u,h=>by
  rcases List.mem_cons.1 h with rfl|h
  ·rfl
  rcases List.mem_cons.1 h with rfl|h
  ·rfl
  exact J4b fs u h
theorem J0t:∀fs gs:Fs,J9 (fs++gs)=J9 fs++J9 gs
 |[],gs=>rfl
 |f::fs,gs=>by simp[J9,J0t fs gs]
theorem J1q:∀(fs:Fs) (i:Nat) (f:ByteArray×ByteArray),fs[i]? =some f->(J9 fs)[2*i]? =some (.string f.1)/\(J9 fs)[2*i+1]? =some (.string f.2)
 |[],i,f,h=>by simp at h
 |g::fs,0,f,h=>by simp at h;subst h;exact⟨rfl,rfl⟩
 |g::fs,i+1,f,h=>by
  have:=J1q fs i f (by simpa using h)
  simpa only[J9,Nat.mul_add,Nat.mul_one,List.getElem?_cons_succ,show 2*i+2+1=(2*i+1)+1+1 from rfl,show 2*i+2=(2*i)+1+1 from rfl] using this
structure Jj (v:Value) (fs:Fs) (l:Hp):Prop where
 sl:SliceHp 2 93 v fs.length (J9 fs) l
 nil:fs=[]->v= .slice none 0 0
theorem J43:(Tryz.prog.info? 93).map (fun i=>(i.zero,i.size,i.bytes))=some (some (.agg #[.string ByteArray.empty,.string ByteArray.empty]),2,32):=by kernel_rfl
theorem SliceHp.view {k:Nat} {T:TypeId} {n:Nat} (h:SliceHp k T v n xs l) (hn:0<n):
 ∃g cap rest,v= .slice (some ⟨g,0,none⟩) n cap/\n<=cap/\cap<=maxLen/\l=[(g,.cells (xs++rest).toArray T (0,0))]/\rest.length=(cap - n)*k:=by
 cases h with
 |nil=>omega
 |laid g n cap xs rest hx hr hn hc=>exact⟨g,cap,rest,rfl,hn,hc,rfl,hr⟩
theorem Je0 (a:Option Addr) (n c:Nat) (w:World):(binOp .eql 57 (.slice a n c) (.slice none 0 0)).run Tryz.prog w= .ok (.bool a.isNone) w:=
 run_eql_slice_nil (P:=Tryz.prog) w _ _ a n c Tryz.underlying57
theorem Jas {ops:Array Oper} {rest:List Oper} {o:Oper} {a:Act} {Q:Exit->Act->World->Prop} (hg:o.guard=none) (ho:o.op= .buildSlice 57 0 #[])
 (h:wpList Tryz.prog ops Q rest (a.put o.dst (.slice (some ⟨w.heap.size,0,none⟩) 0 0)) (w.alloc (.cells #[] 93))):wpList Tryz.prog ops Q (o::rest) a w:=by
  refine wpList_plain hg fun K hK=>?_
  obtain⟨i,hi,hz,hsz,hby⟩:=info_parts J43
  unfold Oper.wp execOp;simp only[ho,Sem.run_bind];have:(Instr.buildSlice 57 0 #[]).run Tryz.prog w= .ok (.slice (some ⟨w.heap.size,0,none⟩) 0 0) (w.alloc (.cells #[] 93)):=by
   simp[Instr.buildSlice,run_underlying Tryz.underlying57,sizeOf,typeInfo,hi,Instr.fill,newRow];have hr0:Array.range 0= #[]:=by decide
   rw[hr0,Array.map_empty]
  simp only[Array.map_empty];rw[this];simp only[Result.andThen_ok];exact hK _ _ h
theorem Jb2 {sl:Hp} {fs:Fs} (hS:J3 w0 l w (sl++r)) (hat:Jj v fs sl) (hB:fs.length<=1048576):
 Calls Tryz.prog 70 #[v] w fun e w'=>∃v' sl',e= .returned v'/\Jj v' fs sl'/\J3 w0 l w' (sl'++(sl++r)):=by
 by_cases hz:fs=[]
 ·subst hz
  obtain rfl:=hat.nil rfl;have hfin:Hid (∃v' sl',Value.slice none 0 0=v'/\Jj v' [] sl'/\J3 w0 l w (sl'++(sl++r))):=⟨_,[],rfl,⟨.nil,fun _=>rfl⟩,hS⟩
  have hq:=Je0 none 0 0;go_enter Tryz.func70,Tryz.ntmps70;go_wp2
  go_ret;obtain⟨v',sl',rfl,h⟩:=hfin.out
  exact⟨_,_,rfl,h⟩
 ·have hn:0<fs.length:=List.length_pos_iff.2 hz
  obtain⟨g,cap,rest,rfl,hc,hc2,rfl,hrest⟩:=hat.sl.view hn
  have S1:=hS.alloc (.cells #[] 93);have hg:=S1.own.tail.head;obtain⟨v',w2,sl',hrun,hsl',S2,_⟩:=J1f (P:=Tryz.prog) (ty:=57) Tryz.underlying57 Tryz.underlying57 J43 rfl (by decide)
   (sl:=[(w.heap.size,.cells #[] 93)]) S1 (.laid w.heap.size 0 0 [] [] rfl rfl (Nat.le_refl _) (by decide))
   ⟨g,0,none⟩ fs.length cap (J9 fs) (K7 fs) (by
    intro j u hu
    have hadd:(⟨g,0,none⟩:Addr).add j=⟨g,j,none⟩:=by unfold Addr.add;split<;>simp_all
    rw[hadd,J2 hg];have hj:j<(J9 fs).length:=(List.getElem?_eq_some_iff.1 hu).1;simp only[List.getElem?_toArray];rw[List.getElem?_append_left hj,hu]) (J4b fs) hn (by omega) (by unfold maxLen;omega)
  simp only[Nat.zero_add,List.nil_append] at hsl';have hfin:Hid (∃v'' sl',v'=v''/\Jj v'' fs sl'/\J3 w0 l w2 (sl'++([(g,.cells (J9 fs++rest).toArray 93 (0,0))]++r))):=⟨_,sl',rfl,⟨hsl',fun h=>absurd h hz⟩,S2⟩
  clear S1 S2 hg hat hS hsl';replace hrun:=hid hrun;have hq:=Je0 (some ⟨g,0,none⟩) fs.length cap;go_enter Tryz.func70,Tryz.ntmps70;go_wp2_with (first|(at_builtin;refine J8 rfl _ _ _ _ rfl _ _ rfl rfl hrun.out ?_)|(refine Jas rfl rfl ?_))
  go_ret;obtain⟨v'',sl',rfl,h⟩:=hfin.out
  exact⟨_,_,rfl,h⟩
theorem Jiz:∀a b:List UInt8,Lib.compareBytes a b= -1\/Lib.compareBytes a b=0\/Lib.compareBytes a b=1
 |[],[]=>.inr (.inl rfl)
 |[],_::_=>.inl rfl
 |_::_,[]=>.inr (.inr rfl)
 |a::s,b::t=>by
  unfold Lib.compareBytes;by_cases h:a<b
  ·simp[h]
  ·by_cases h2:b<a
   ·simp[h,h2]
   ·simp only[h,h2,if_false];exact Jiz s t
theorem Joe:∀a:List UInt8,Lib.compareBytes a a=0
 |[]=>rfl
 |a::s=>by unfold Lib.compareBytes;simp[UInt8.lt_irrefl,Joe s]
theorem Jxn:∀a b:List UInt8,Lib.compareBytes a b=0->a=b
 |[],[],_=>rfl
 |[],_::_,h=>by simp[Lib.compareBytes] at h
 |_::_,[],h=>by simp[Lib.compareBytes] at h
 |a::s,b::t,h=>by
  unfold Lib.compareBytes at h;by_cases h1:a<b
  ·simp[h1] at h
  ·by_cases h2:b<a
   ·simp[h1,h2] at h
   ·simp only[h1,h2,if_false] at h
    have:=Jxn s t h
    have e:a=b:=UInt8.le_antisymm (UInt8.not_lt.1 h2) (UInt8.not_lt.1 h1);rw[e,this]
theorem Jod:∀a b:List UInt8,Lib.compareBytes b a= - Lib.compareBytes a b
 |[],[]=>rfl
 |[],_::_=>rfl
 |_::_,[]=>rfl
 |a::s,b::t=>by
  unfold Lib.compareBytes;by_cases h1:a<b
  ·have h2:¬b<a:=fun h=>UInt8.lt_irrefl a (UInt8.lt_trans h1 h)
   simp[h1,h2]
  ·by_cases h2:b<a
   ·simp[h1,h2]
   ·simp only[h1,h2,if_false];exact Jod s t
theorem Jj0:∀a b c:List UInt8,Lib.compareBytes a b<0->Lib.compareBytes b c<0->Lib.compareBytes a c<0
 |[],[],_,h,_=>by simp[Lib.compareBytes] at h
 |[],_::_,[],_,h=>by simp[Lib.compareBytes] at h
 |[],_::_,_::_,_,_=>by simp[Lib.compareBytes]
 |_::_,[],_,h,_=>by simp[Lib.compareBytes] at h
 |_::_,_::_,[],_,h=>by simp[Lib.compareBytes] at h
 |a::s,b::t,c::u,h1,h2=>by
  have key:=Jj0 s t u;unfold Lib.compareBytes at h1 h2⊢;by_cases hab:a<b
  ·by_cases hbc:b<c
   ·simp[UInt8.lt_trans hab hbc]
   ·by_cases hcb:c<b
    ·simp[hbc,hcb] at h2
    ·have e:b=c:=UInt8.le_antisymm (UInt8.not_lt.1 hcb) (UInt8.not_lt.1 hbc)
     subst e;simp[hab]
  ·by_cases hba:b<a
   ·simp[hab,hba] at h1
   ·have e:a=b:=UInt8.le_antisymm (UInt8.not_lt.1 hba) (UInt8.not_lt.1 hab)
    subst e;simp only[hab,if_false] at h1;by_cases hbc:a<c
    ·simp[hbc]
    ·by_cases hcb:c<a
     ·simp[hbc,hcb] at h2
     ·simp only[hbc,hcb,if_false] at h2⊢
      exact key h1 h2
def J2j (a b:ByteArray):Int:=Lib.compareBytes a.data.toList b.data.toList
theorem Jov {b:ByteArray} (h:J2j a b=0):a=b:=by
 have:=Jxn _ _ h
 obtain⟨⟨a⟩⟩:=a;obtain⟨⟨b⟩⟩:=b
 simpa using this
theorem Jg7 (a:ByteArray):J2j a a=0:=Joe _
theorem Jr8 (a b:ByteArray):J2j b a= - J2j a b:=Jod _ _
theorem J75 {b c:ByteArray} (h1:J2j a b<0) (h2:J2j b c<0):J2j a c<0:=Jj0 _ _ _ h1 h2
theorem Jmw (a b:ByteArray):J2j a b= -1\/J2j a b=0\/J2j a b=1:=Jiz _ _
theorem Ja7 (a b:ByteArray) (w:World):
 Calls Tryz.prog 228 #[.string a,.string b] w fun e w'=>e= .returned (.int .i64 (J2j a b))/\w'=w:=by
 go_enter Tryz.func228,Tryz.ntmps228;go_wp2
 rw[run_callFunc_extern Tryz.func244 (by kernel_rfl) (by kernel_rfl) (by kernel_rfl) (e:=Extern.BytealgCompare.compare) (by kernel_rfl),Lib.run_compareString]
 simp only[Result.andThen];rw[Oper.upon_value];go_wp2
 go_ret;exact⟨rfl,rfl⟩
theorem Jj2 (a b:ByteArray) (w:World):
 Calls Tryz.prog 213 #[.string a,.string b] w fun e w'=>e= .returned (.int .i64 (J2j a b))/\w'=w:=by
 go_enter Tryz.func213,Tryz.ntmps213;go_wp2_with (go_at_call 228;refine(Ja7 _ _ _).mono ?_;rintro e w' ⟨rfl,rfl⟩);go_ret;exact⟨rfl,rfl⟩
def J7l (f:ByteArray×ByteArray):Value:=.agg #[.string f.1,.string f.2]
theorem J9m (hS:J3 w0 l w r) (f g:ByteArray×ByteArray):
 Calls Tryz.prog 184 #[J7l f,J7l g] w fun e w'=>e= .returned (.int .i64 (J2j f.1 g.1))/\J3 w0 l w' r:=by
 go_enter Tryz.func184,Tryz.ntmps184;unfold J7l;go_wp2_with (go_at_call 213;refine(Jj2 _ _ _).mono ?_;rintro e w' ⟨rfl,rfl⟩);go_ret;exact⟨rfl,((hS.alloc _).alloc _).less ((List.sublist_cons_self _ _).trans (List.sublist_cons_self _ _))⟩
end Go.Proofs.YtncbcaabanoeoaaGreatDoor
