/-
The heap as owned parts: a part is a list of blocks with what they hold; a call changes the parts that it owns and lays new blocks; all else stays.
-/
import Derived.BigQuiet
import Derived.Deep.QuietTactic
import Derived.Deep.RegionHeld3
import Derived.Deep.RegionWith
import Derived.Great.BuildSlice
import Derived.Handy
import Derived.Laws.Externs
import Derived.Lib.Bytealg
import Derived.Lib.LazyBuf
import Derived.StillTailTactics
import Derived.WalkKit
import Derived.WalkLawsBesides
import Derived.Test.YtefjbegnlolgbaaGreatDoorProg
set_option linter.unusedVariables false
set_option linter.unusedSimpArgs false
set_option maxRecDepth 100000
set_option maxHeartbeats 8000000
namespace Go.Proofs.YtefjbegnlolgbaaGreatDoor
open Go Go.RowKit
variable {p:Nat × Obj}{w w2 w' w0:World}{b k:Nat}{o:Obj}{cs:Array Value}{t:TypeId}{fr:Nat × Nat}{a:ByteArray}{P:Program}{v:Value}{xs:List Value}
theorem hid {p:Prop} (h:p):Hid p:=h
abbrev Hp:=List (Nat×Obj)
variable {l r l' l2:Hp}
def keys (l:Hp):List Nat:=l.map Prod.fst
@[simp] theorem Jn7:keys []=[]:=rfl
@[simp] theorem J0v (p:Nat×Obj) (l:Hp):keys (p::l)=p.1::keys l:=rfl
@[simp] theorem J0z (l r:Hp):keys (l++r)=keys l++keys r:=by simp[keys]
structure Own (w:World) (l:Hp):Prop where
 at_:∀p∈l,w.heap[p.1]? =some p.2
 nd:(keys l).Nodup
theorem Own.nil (w:World):Own w []:=⟨by simp,by simp⟩
theorem Own.lt (h:Own w l) (hb:b∈keys l):b<w.heap.size:=by
 simp only[keys,List.mem_map] at hb;obtain⟨p,hp,rfl⟩:=hb
 exact(Array.getElem?_eq_some_iff.1 (h.at_ p hp)).1
theorem Own.head (h:Own w ((b,o)::l)):w.heap[b]? =some o:=h.at_ (b,o) (by simp)
theorem Own.tail (h:Own w (p::l)):Own w l:=
 ⟨fun q hq=>h.at_ q (by simp[hq]),by have:=h.nd;simp at this;exact this.2⟩
theorem Own.left (h:Own w (l++r)):Own w l:=
 ⟨fun q hq=>h.at_ q (by simp[hq]),by have:=h.nd;rw[J0z,List.nodup_append] at this;exact this.1⟩
theorem Own.right (h:Own w (l++r)):Own w r:=
 ⟨fun q hq=>h.at_ q (by simp[hq]),by have:=h.nd;rw[J0z,List.nodup_append] at this;exact this.2.1⟩
theorem Own.disj (h:Own w (l++r)) (hl:b∈keys l) (hr:b∈keys r):False:=by
 have:=h.nd
 rw[J0z,List.nodup_append] at this;exact this.2.2 b hl b hr rfl
theorem Own.perm (h:Own w l) (p:l.Perm l'):Own w l':=
 ⟨fun q hq=>h.at_ q (p.mem_iff.2 hq),(p.map Prod.fst).nodup_iff.1 h.nd⟩
theorem Own.append (hl:Own w l) (hr:Own w r) (hd:∀b,b∈keys l->b∈keys r->False):Own w (l++r):=
 ⟨fun q hq=>by
  rw[List.mem_append] at hq;rcases hq with hq|hq
  ·exact hl.at_ q hq
  ·exact hr.at_ q hq,by rw[J0z,List.nodup_append];exact⟨hl.nd,hr.nd,fun a ha b hb e=>hd a ha (e▸hb)⟩⟩
theorem Own.sub (h:Own w l) (p:l'.Sublist l):Own w l':=
 ⟨fun q hq=>h.at_ q (p.subset hq),(p.map Prod.fst).nodup h.nd⟩
structure J1 (w:World) (l:Hp) (w':World) (l':Hp):Prop where
 os:w'.os=w.os
 output:w'.output=w.output
 size:w.heap.size<=w'.heap.size
 own:Own w' l'
 same:∀b,b<w.heap.size->b∉keys l->w'.heap[b]? =w.heap[b]?
 new:∀b,b∈keys l'->b∈keys l\/w.heap.size<=b
theorem J1.refl (h:Own w l):J1 w l w l:=
 ⟨rfl,rfl,Nat.le_refl _,h,fun _ _ _=>rfl,fun _ h=>.inl h⟩
theorem J1.trans {w1:World} {l1:Hp} (h:J1 w l w1 l1) (k:J1 w1 l1 w2 l2):J1 w l w2 l2 where
 os:=k.os.trans h.os
 output:=k.output.trans h.output
 size:=Nat.le_trans h.size k.size
 own:=k.own
 same b hb hn:=by
  have h1:b∉keys l1:=fun hm=>by
   rcases h.new b hm with h|h
   ·exact hn h
   ·omega
  rw[k.same b (Nat.lt_of_lt_of_le hb h.size) h1,h.same b hb hn]
 new b hb:=by
  rcases k.new b hb with h'|h'
  ·exact h.new b h'
  ·exact .inr (Nat.le_trans h.size h')
theorem J1.beside (h:J1 w l w' l') (ho:Own w (l++r)):Own w' (l'++r):=by
 refine h.own.append ⟨fun q hq=>?_,ho.right.nd⟩ ?_
 ·have hk:q.1∈keys r:=List.mem_map_of_mem hq
  rw[h.same q.1 (ho.right.lt hk) (fun hl=>ho.disj hl hk)]
  exact ho.at_ q (by simp[hq])
 ·intro b hb hr
  rcases h.new b hb with h'|h'
  ·exact ho.disj h' hr
  ·have:=ho.right.lt hr;omega
theorem J1.frame (h:J1 w l w' l') (ho:Own w (l++r)):J1 w (l++r) w' (l'++r) where
 os:=h.os
 output:=h.output
 size:=h.size
 own:=h.beside ho
 same b hb hn:=h.same b hb (fun hm=>hn (by simp[hm]))
 new b hb:=by
  rw[J0z,List.mem_append] at hb;rcases hb with hb|hb
  ·rcases h.new b hb with h'|h'
   ·exact .inl (by simp[h'])
   ·exact .inr h'
  ·exact .inl (by simp[hb])
theorem J1.less (h:J1 w l w' l') (s:l2.Sublist l'):J1 w l w' l2:=
 ⟨h.os,h.output,h.size,h.own.sub s,h.same,fun b hb=>h.new b ((s.map Prod.fst).subset hb)⟩
theorem J1.permR (h:J1 w l w' l') (p:l'.Perm l2):J1 w l w' l2:=
 ⟨h.os,h.output,h.size,h.own.perm p,h.same,fun b hb=>h.new b ((p.map Prod.fst).mem_iff.2 hb)⟩
theorem J1.alloc (h:J1 w l w' l') (o:Obj):J1 w l (w'.alloc o) ((w'.heap.size,o)::l'):=by
 have hk:∀b,b<w'.heap.size->(w'.alloc o).heap[b]? =w'.heap[b]? :=fun b hb=>by
  show(w'.heap.push o)[b]? =_
  rw[Array.getElem?_push,if_neg (by omega)]
 refine⟨h.os,h.output,by have:=h.size;simp;omega,⟨?_,?_⟩,?_,?_⟩
 ·intro p hp
  rcases List.mem_cons.1 hp with rfl|hp
  ·show(w'.heap.push o)[w'.heap.size]? =_
   simp
  ·rw[hk p.1 (h.own.lt (List.mem_map_of_mem hp))]
   exact h.own.at_ p hp
 ·rw[J0v,List.nodup_cons]
  exact⟨fun hm=>Nat.lt_irrefl _ (h.own.lt hm),h.own.nd⟩
 ·intro b hb hn
  rw[hk b (Nat.lt_of_lt_of_le hb h.size),h.same b hb hn]
 ·intro b hb
  rw[J0v] at hb;rcases List.mem_cons.1 hb with rfl|hb
  ·exact .inr h.size
  ·exact h.new b hb
theorem J1.heap (h:J1 w l w' l') (hh:w2.heap=w'.heap) (ho:w2.os=w'.os) (hp:w2.output=w'.output):J1 w l w2 l':=
 ⟨ho.trans h.os,hp.trans h.output,by rw[hh];exact h.size,⟨fun p hp=>by rw[hh];exact h.own.at_ p hp,h.own.nd⟩,fun b hb hn=>by rw[hh];exact h.same b hb hn,h.new⟩
theorem J1.drew (h:J1 w l w' l'):J1 w l w'.drew l':=h.heap rfl rfl rfl
theorem J1.put {o':Obj} (h:J1 w l w' ((b,o)::l')) (hs:w2.heap.size=w'.heap.size) (hb:w2.heap[b]? =some o')
 (hk:∀k,k≠b->w2.heap[k]? =w'.heap[k]?) (ho:w2.os=w'.os) (hp:w2.output=w'.output):J1 w l w2 ((b,o')::l'):=by
  have hnd:=h.own.nd;rw[J0v,List.nodup_cons] at hnd;refine⟨ho.trans h.os,hp.trans h.output,by rw[hs];exact h.size,⟨?_,by rw[J0v,List.nodup_cons];exact hnd⟩,?_,fun k hk=>h.new k hk⟩
  ·intro p hp
   rcases List.mem_cons.1 hp with rfl|hp
   ·exact hb
   ·have hm:p.1∈keys l':=List.mem_map_of_mem hp
    rw[hk p.1 (fun e=>hnd.1 (e▸hm))]
    exact h.own.at_ p (by simp[hp])
  ·intro k hkk hn
   have:k≠b:=by
    rintro rfl;rcases h.new k (by simp) with h'|h'
    ·exact hn h'
    ·omega
   rw[hk k this,h.same k hkk hn]
theorem J4f {i:Nat} (v:Value) (h:w.heap[b]? =some (.cells cs t fr)):
 (w.setCell ⟨b,i,none⟩ v).heap[b]? =some (.cells (cs.setIfInBounds i v) t fr):=by
 simp only[World.setCell,Array.getElem?_modify,if_true,h];simp
theorem J1.set (h:J1 w l w' ((b,.cells cs t fr)::l')) (i:Nat) (v:Value):
 J1 w l (w'.setCell ⟨b,i,none⟩ v) ((b,.cells (cs.setIfInBounds i v) t fr)::l'):=
 h.put (by simp) (J4f v h.own.head) (fun k hk=>Below.heap_setCell _ _ _ _ hk) rfl rfl
theorem J1.set2 (h:J1 w l w' (p::(b,.cells cs t fr)::l')) (i:Nat) (v:Value):
 J1 w l (w'.setCell ⟨b,i,none⟩ v) (p::(b,.cells (cs.setIfInBounds i v) t fr)::l'):=
 ((h.permR (List.Perm.swap _ _ _)).set i v).permR (List.Perm.swap _ _ _)
theorem J1.set3 {q:Nat×Obj} (h:J1 w l w' (p::q::(b,.cells cs t fr)::l')) (i:Nat) (v:Value):
 J1 w l (w'.setCell ⟨b,i,none⟩ v) (p::q::(b,.cells (cs.setIfInBounds i v) t fr)::l'):=
 (((h.permR (l2:=(b,.cells cs t fr)::p::q::l') ((List.Perm.cons _ (List.Perm.swap _ _ _)).trans (List.Perm.swap _ _ _))).set i v).permR ((List.Perm.swap _ _ _).trans (List.Perm.cons _ (List.Perm.swap _ _ _))))
theorem J1.drewN (h:J1 w l w' l') (n:Nat):J1 w l (w'.drewN n) l':=h.heap rfl rfl rfl
theorem Own.drewN (h:Own w l) (n:Nat):Own (w.drewN n) l:=⟨fun p hp=>by simpa using h.at_ p hp,h.nd⟩
theorem J1.part {w1:World} {m a a':Hp} (h:J1 w l w1 m) (p:m.Perm (a++r)) (k:J1 w1 a w2 a'):J1 w l w2 (a'++r):=
 (h.permR p).trans (k.frame (h.own.perm p))
theorem J1.beginning {m a:Hp} (h:J1 w0 l w m) (k:J1 w [] w' a):J1 w0 l w' (a++m):=
 h.part (a:=[]) (r:=m) (List.Perm.refl _) k
theorem J1.setIn {a c:Hp} (h:J1 w l w' (a++(b,.cells cs t fr)::c)) (i:Nat) (v:Value):
 J1 w l (w'.setCell ⟨b,i,none⟩ v) (a++(b,.cells (cs.setIfInBounds i v) t fr)::c):=
 ((h.permR List.perm_middle).set i v).permR List.perm_middle.symm
theorem J0 (h:w.heap[b]? =some (.cells cs t fr)) (i:Nat):w.cell? ⟨b,i,none⟩=cs[i]? :=by
 simp[World.cell?,h]
theorem J6 (h:w.heap[b]? =some (.cells cs t (0,0))) (i:Nat):w.frozen? ⟨b,i,none⟩=false:=by
 simp[World.frozen?,h]
theorem Jc (h:w.heap[b]? =some o):b<w.heap.size:=(Array.getElem?_eq_some_iff.1 h).1
theorem Jfs {b:ByteArray} (h:(a.toList==b.toList)=true):a=b:=by
 rw[beq_iff_eq,ByteArray.toList_eq,ByteArray.toList_eq] at h;cases a;cases b;simp only at h;congr 1;exact Array.toList_inj.1 h
theorem Jml {b:ByteArray} (h:(a.toList==b.toList)=false):a≠b:=by
 rintro rfl;simp at h
theorem Jc2 {b:ByteArray} (h:a=b):(a.toList==b.toList)=true:=by subst h;simp
theorem J6o {b:ByteArray} (h:a≠b):(a.toList==b.toList)=false:=by
 cases hb:(a.toList==b.toList) with
 |false=>rfl
 |true=>exact absurd (Jfs hb) h
theorem J7a {f:FuncId} {args:Array Value} (h:Calls P f args w fun e w'=>e= .returned v/\w=w'):
 Calls P f args w fun e w'=>e= .returned v/\w'=w:=h.mono fun _ _ h=>⟨h.1,h.2.symm⟩
theorem Jac (a b:ByteArray):(a==b)=decide (a=b):=by
 rw[Bool.eq_iff_iff,decide_eq_true_iff];constructor
 ·intro h
  cases a;cases b
  have h':((_:Array UInt8)==_)=true:=h;congr 1
  exact beq_iff_eq.1 h'
 ·rintro rfl
  cases a
  show((_:Array UInt8)==_)=true
  simp
abbrev AL (α:Type):=List (ByteArray×α)
def J7 {α:Type} (m:AL α) (k:ByteArray):Option α:=(m.find? (fun p=>decide (p.1=k))).map Prod.snd
def Jk {α:Type} (m:AL α) (k:ByteArray):AL α:=m.filter (fun p=>decide (p.1≠k))
def Jbs {α:Type} (m:AL α) (k:ByteArray) (v:α):AL α:=m.map (fun p=>if p.1=k then(k,v) else p)
def J22 {α:Type} (m:AL α) (k:ByteArray) (v:α):AL α:=if(J7 m k).isSome then Jbs m k v else m++[(k,v)]
def Kz (o:Obj) (m:AL Value):Prop:=∃es clock,o= .map es clock/\es.toList.map (fun e=>(e.key,e.val))=m.map (fun p=>(Value.string p.1,p.2))
theorem Kz.empty:Kz (.map #[] 0) []:=⟨_,_,rfl,rfl⟩
theorem J7k (k:ByteArray):∀(es:List MapEntry) (m:AL Value) (i:Nat),es.map (fun e=>(e.key,e.val))=m.map (fun p=>(Value.string p.1,p.2))->
 Instr.findNow .string (.string k) es i=some ((m.findIdx? (fun p=>decide (p.1=k))).bind fun j=>(m[j]?).map fun p=>(i+j,p.2))
 |[],m,i,h=>by
  cases m with
  |nil=>rfl
  |cons p m=>simp at h
 |e::es,m,i,h=>by
  cases m with
  |nil=>simp at h
  |cons p m=>
   simp only[List.map_cons,List.cons.injEq,Prod.mk.injEq] at h;obtain⟨⟨h1,h2⟩,h3⟩:=h
   have ih:=J7k k es m (i+1) h3;simp only[Instr.findNow,h1,Instr.sameNow,Jac];by_cases hk:k=p.1
   ·subst hk
    simp[List.findIdx?_cons,h2]
   ·have hk':¬p.1=k:=fun e=>hk e.symm
    rw[decide_eq_false hk];simp only[ih,List.findIdx?_cons,decide_eq_false hk',Option.bind_map];simp only[Bool.false_eq_true,if_false,Option.bind_map,Function.comp_def,List.getElem?_cons_succ];congr 1
    congr 1
    funext j
    congr 1
    funext q
    congr 1
    omega
theorem J2s {m:AL Value} {k:ByteArray}:((m.findIdx? (fun p=>decide (p.1=k))).bind fun j=>(m[j]?).map fun p=>p.2)=J7 m k:=by
 induction m with
 |nil=>rfl
 |cons p m ih=>
  simp only[List.findIdx?_cons,J7,List.find?_cons] at ih⊢;by_cases hk:p.1=k
  ·simp[hk]
  ·simp[hk,Option.bind_map,Function.comp_def] at ih⊢
   exact ih
section
variable {P:Program} {t k e:TypeId}
theorem J1j (hk:P.underlying k=some .string) {es:Array MapEntry} {m:AL Value} (h:es.toList.map (fun e=>(e.key,e.val))=m.map (fun p=>(Value.string p.1,p.2))) (key:ByteArray) (w:World):
 (Instr.findKey k (.string key) es.toList).run P w= .ok ((m.findIdx? (fun p=>decide (p.1=key))).bind fun j=>(m[j]?).map fun p=>(j,p.2)) w:=by
 unfold Instr.findKey;have:=J7k key es.toList m 0 h
 simp only[Nat.zero_add] at this;simp[run_underlying hk,this]
theorem J9m (hk:P.underlying k=some .string) (b:Bool) (n:Nat) (key:ByteArray) (w:World):(Instr.checkKey b (n+1) k (.string key)).run P w= .ok () w:=by
 simp[Instr.checkKey,run_underlying hk]
theorem J19 (hk:P.underlying k=some .string) (b:Bool) (key:ByteArray) (w:World):(Instr.checkKey b 10000 k (.string key)).run P w= .ok () w:=J9m hk b 9999 key w
theorem J39 (ht:P.underlying t=some (.map k e)) (hk:P.underlying k=some .string) {z:Value} (hz:∀w,(zeroValue e).run P w= .ok z w) {w:World} {r:Nat} {o:Obj} {m:AL Value}
 (hr:w.heap[r]? =some o) (hm:Kz o m) (key:ByteArray):
 (Instr.lookup t (.map (some r)) (.string key) true).run P w= .ok (.tuple #[(J7 m key).getD z,.bool (J7 m key).isSome]) w:=by
 obtain⟨es,clock,rfl,h⟩:=hm
 have hg:(Sem.getObj r Sem.pure).run P w= .ok (.map es clock) w:=by simp[Sem.run,hr]
 have hl:=@J2s m key;unfold Instr.lookup;simp only[Sem.run_bind,run_underlying ht,Result.andThen_ok,Sem.run_pure];rw[show(getObj r:Sem Obj)=Sem.getObj r Sem.pure from rfl,hg];simp only[Sem.run_bind,Result.andThen_ok,Sem.run_pure,J19 hk,J1j hk h];cases hf:(m.findIdx? (fun p=>decide (p.1=key))) with
 |none=>
  rw[hf] at hl;simp only[Option.bind_none] at hl⊢;simp[hz,<-hl]
 |some j=>
  rw[hf] at hl;simp only[Option.bind_some] at hl⊢;have hj:j<m.length:=(List.findIdx?_eq_some_iff_getElem.1 hf).1;rw[List.getElem?_eq_getElem hj] at hl⊢;simp only[Option.map_some] at hl⊢;simp[<-hl]
theorem J5l (ht:P.underlying t=some (.map k e)) (hk:P.underlying k=some .string) {z:Value} (hz:∀w,(zeroValue e).run P w= .ok z w) {w:World} {r:Nat} {o:Obj} {m:AL Value}
 (hr:w.heap[r]? =some o) (hm:Kz o m) (key:ByteArray):
 (Instr.lookup t (.map (some r)) (.string key) false).run P w= .ok ((J7 m key).getD z) w:=by
 obtain⟨es,clock,rfl,h⟩:=hm
 have hg:(Sem.getObj r Sem.pure).run P w= .ok (.map es clock) w:=by simp[Sem.run,hr]
 have hl:=@J2s m key;unfold Instr.lookup;simp only[Sem.run_bind,run_underlying ht,Result.andThen_ok,Sem.run_pure];rw[show(getObj r:Sem Obj)=Sem.getObj r Sem.pure from rfl,hg];simp only[Sem.run_bind,Result.andThen_ok,Sem.run_pure,J19 hk,J1j hk h];cases hf:(m.findIdx? (fun p=>decide (p.1=key))) with
 |none=>
  rw[hf] at hl;simp only[Option.bind_none] at hl⊢;simp[hz,<-hl]
 |some j=>
  rw[hf] at hl;simp only[Option.bind_some] at hl⊢;have hj:j<m.length:=(List.findIdx?_eq_some_iff_getElem.1 hf).1;rw[List.getElem?_eq_getElem hj] at hl⊢;simp only[Option.map_some] at hl⊢;simp[<-hl]
theorem Ja2 (n:Nat) (a:ByteArray):Instr.sameBits (n+1) (.string a) (.string a)=true:=by
 simp[Instr.sameBits,Jac]
theorem Jc0 (a:ByteArray):Instr.sameBits 10000 (.string a) (.string a)=true:=Ja2 9999 a
theorem J6c {m:AL Value} {key:ByteArray} (h:m.findIdx? (fun p=>decide (p.1=key))=none):J7 m key=none:=by
 rw[<-J2s,h];rfl
theorem J6d {m:AL Value} {key:ByteArray} {j:Nat} (h:m.findIdx? (fun p=>decide (p.1=key))=some j):∃hj:j<m.length,J7 m key=some (m[j]).2/\(m[j]).1=key:=by
 obtain⟨hj,h1,_⟩:=List.findIdx?_eq_some_iff_getElem.1 h
 exact⟨hj,by rw[<-J2s,h];simp[List.getElem?_eq_getElem hj],by simpa using h1⟩
theorem Jfo {α:Type} {m:AL α} {key:ByteArray} {v:α} {j:Nat} (hn:(m.map Prod.fst).Nodup) (hj:j<m.length) (hk:(m[j]).1=key):Jbs m key v=m.set j (key,v):=by
 apply List.ext_getElem?
 intro i
 simp only[Jbs,List.getElem?_map,List.getElem?_set];by_cases hij:j=i
 ·subst hij
  simp[hj,hk]
 ·rw[if_neg hij]
  cases hi:m[i]? with
  |none=>rfl
  |some p=>
   have hil:=(List.getElem?_eq_some_iff.1 hi).1
   have:p.1≠key:=by
    intro e
    have h1:(m.map Prod.fst)[i]? =(m.map Prod.fst)[j]? :=by simp[hi,e,List.getElem?_eq_getElem hj,hk]
    exact hij ((List.getElem?_inj (by simpa using hil) hn).1 h1).symm
   simp[this]
theorem Jkw {α:Type} {m:AL α} {key:ByteArray} {j:Nat} (hn:(m.map Prod.fst).Nodup) (hj:j<m.length) (hk:(m[j]).1=key):Jk m key=m.eraseIdx j:=by
 induction m generalizing j with
 |nil=>simp at hj
 |cons p m ih=>
  simp only[List.map_cons,List.nodup_cons] at hn;cases j with
  |zero=>
   simp only[List.getElem_cons_zero] at hk;simp only[Jk,List.eraseIdx_cons_zero,List.filter_cons,hk];simp only[ne_eq,not_true,decide_false,Bool.false_eq_true,if_false];rw[List.filter_eq_self];intro q hq
   have:q.1≠key:=fun e=>hn.1 (List.mem_map.2 ⟨q,hq,e.trans hk.symm⟩)
   simpa using this
  |succ j=>
   simp only[List.getElem_cons_succ,List.length_cons] at hk hj;have hp:p.1≠key:=fun e=>hn.1 (List.mem_map.2 ⟨_,List.getElem_mem (by omega:j<m.length),hk.trans e.symm⟩)
   simp only[Jk,List.eraseIdx_cons_succ,List.filter_cons];simp only[ne_eq,hp,not_false_eq_true,decide_true,if_true];congr 1
   exact ih hn.2 (by omega) hk
theorem J74 {α:Type} {m:AL α} {key:ByteArray} (h:J7 m key=none):Jk m key=m:=by
 rw[Jk,List.filter_eq_self];intro p hp
 simp only[J7,Option.map_eq_none_iff,List.find?_eq_none] at h;have:=h p hp
 simpa using this
theorem J1u {α β:Type} (f:α->β):∀(l:List α) (i:Nat),(l.eraseIdx i).map f=(l.map f).eraseIdx i
 |[],_=>rfl
 |a::l,0=>rfl
 |a::l,i+1=>by simp[J1u f l i]
theorem Jd9 {w:World} {r:Nat} {o o':Obj} (hr:w.heap[r]? =some o):(w.heap.setIfInBounds r o')[r]? =some o':=by
 have:=(Array.getElem?_eq_some_iff.1 hr).1
 simp[this]
theorem J1.obj {w0 w w2:World} {l l':Hp} {r:Nat} {o o':Obj} (h:J1 w0 l w ((r,o)::l')) (hw:w2={w with heap:=w.heap.setIfInBounds r o'}):J1 w0 l w2 ((r,o')::l'):=by
 subst hw;exact h.put (by simp) (Jd9 h.own.head) (fun k hk=>by simp[Array.getElem?_setIfInBounds,Ne.symm hk]) rfl rfl
theorem J6n (ht:P.underlying t=some (.map k e)) (hk:P.underlying k=some .string) {w:World} {r:Nat} {o:Obj} {m:AL Value}
 (hr:w.heap[r]? =some o) (hm:Kz o m) (hn:(m.map Prod.fst).Nodup) (key:ByteArray) (v:Value):
 ∃o',(Instr.mapUpdate t (.map (some r)) (.string key) v).run P w= .ok () {w with heap:=w.heap.setIfInBounds r o'}/\Kz o' (J22 m key v):=by
 obtain⟨es,clock,rfl,h⟩:=hm
 have hg:(Sem.getObj r Sem.pure).run P w= .ok (.map es clock) w:=by simp[Sem.run,hr]
 have hlen:es.size=m.length:=by have:=congrArg List.length h;simpa using this
 have hset:∀o',(setObj r o':Sem Unit).run P w= .ok () {w with heap:=w.heap.setIfInBounds r o'}:=by
  intro o'
  show(Sem.setObj r o' (Sem.pure ())).run P w=_
  simp[Sem.run,hr]
 cases hf:(m.findIdx? (fun p=>decide (p.1=key))) with
 |none=>
  refine⟨.map (es.push {key:=.string key,val:=v,born:=clock}) (clock+1),?_,_,_,rfl,?_⟩
  ·unfold Instr.mapUpdate
   simp only[Sem.run_bind,run_underlying ht,Result.andThen_ok,Sem.run_pure];rw[show(getObj r:Sem Obj)=Sem.getObj r Sem.pure from rfl,hg];simp only[Sem.run_bind,Result.andThen_ok,Sem.run_pure,J19 hk,J1j hk h,hf,Option.bind_none];exact hset _
  ·rw[J22,J6c hf]
   simp[h]
 |some j=>
  obtain⟨hj,hl,hkj⟩:=J6d hf
  have hje:j<es.size:=by omega
  have hkey:(es[j]).key= .string key/\(es[j]).val=(m[j]).2:=by
   have h1:(es.toList.map (fun e=>(e.key,e.val)))[j]? =(m.map (fun p=>(Value.string p.1,p.2)))[j]? :=by rw[h]
   simp only[List.getElem?_map,Array.getElem?_toList,Array.getElem?_eq_getElem hje,List.getElem?_eq_getElem hj,Option.map_some,Option.some.injEq,Prod.mk.injEq] at h1;exact⟨h1.1.trans (by rw[hkj]),h1.2⟩
  refine⟨.map (es.modify j fun e=>{e with key:=.string key,val:=v}) clock,?_,_,_,rfl,?_⟩
  ·unfold Instr.mapUpdate
   simp only[Sem.run_bind,run_underlying ht,Result.andThen_ok,Sem.run_pure];rw[show(getObj r:Sem Obj)=Sem.getObj r Sem.pure from rfl,hg];simp only[Sem.run_bind,Result.andThen_ok,Sem.run_pure,J19 hk,J1j hk h,hf,Option.bind_some,List.getElem?_eq_getElem hj,Option.map_some];rw[Array.getElem?_eq_getElem hje];simp only[Option.map_some,Option.getD_some,hkey.1,Instr.keyThatStays,Jc0,if_true,Sem.run_bind,Sem.run_pure,Result.andThen_ok];exact hset _
  ·rw[J22,hl]
   simp only[Option.isSome_some,if_true,Jfo hn hj hkj];apply List.ext_getElem?
   intro i
   have h1:(es.toList.map (fun e=>(e.key,e.val)))[i]? =(m.map (fun p=>(Value.string p.1,p.2)))[i]? :=by rw[h]
   simp only[List.getElem?_map,Array.getElem?_toList,List.getElem?_set,Array.getElem?_modify] at h1⊢;by_cases hij:j=i
   ·subst hij
    simp[hj,hje]
   ·simp only[if_neg hij]
    exact h1
theorem J8k (ht:P.underlying t=some (.map k e)) (hk:P.underlying k=some .string) {w:World} {r:Nat} {o:Obj} {m:AL Value} (ty:TypeId)
 (hr:w.heap[r]? =some o) (hm:Kz o m) (hn:(m.map Prod.fst).Nodup) (key:ByteArray) (t2:TypeId):
 ∃o',(Builtin.delete_ #[t,t2] ty #[.map (some r),.string key]).run P w= .ok (.tuple #[]) {w with heap:=w.heap.setIfInBounds r o'}/\Kz o' (Jk m key):=by
 obtain⟨es,clock,rfl,h⟩:=hm
 have hg:(Sem.getObj r Sem.pure).run P w= .ok (.map es clock) w:=by simp[Sem.run,hr]
 have hlen:es.size=m.length:=by have:=congrArg List.length h;simpa using this
 have hset:∀o',(setObj r o':Sem Unit).run P w= .ok () {w with heap:=w.heap.setIfInBounds r o'}:=by
  intro o'
  show(Sem.setObj r o' (Sem.pure ())).run P w=_
  simp[Sem.run,hr]
 cases hf:(m.findIdx? (fun p=>decide (p.1=key))) with
 |none=>
  refine⟨.map es clock,?_,_,_,rfl,?_⟩
  ·unfold Builtin.delete_
   simp only[List.getElem?_toArray,List.getElem?_cons_zero,List.getElem?_cons_succ];simp only[Sem.run_bind,run_underlying ht,Result.andThen_ok,Sem.run_pure];rw[show(getObj r:Sem Obj)=Sem.getObj r Sem.pure from rfl,hg];simp only[Sem.run_bind,Result.andThen_ok,Sem.run_pure,J19 hk,J1j hk h,hf,Option.bind_none,hset]
  ·rw[J74 (J6c hf)]
   exact h
 |some j=>
  obtain⟨hj,hl,hkj⟩:=J6d hf
  have hje:j<es.size:=by omega
  refine⟨.map (es.eraseIdxIfInBounds j) clock,?_,_,_,rfl,?_⟩
  ·unfold Builtin.delete_
   simp only[List.getElem?_toArray,List.getElem?_cons_zero,List.getElem?_cons_succ];simp only[Sem.run_bind,run_underlying ht,Result.andThen_ok,Sem.run_pure];rw[show(getObj r:Sem Obj)=Sem.getObj r Sem.pure from rfl,hg];simp only[Sem.run_bind,Result.andThen_ok,Sem.run_pure,J19 hk,J1j hk h,hf,Option.bind_some,List.getElem?_eq_getElem hj,Option.map_some,hset]
  ·rw[Jkw hn hj hkj]
   have e1:(es.eraseIdxIfInBounds j).toList=es.toList.eraseIdx j:=by
    simp[Array.eraseIdxIfInBounds,hje]
   rw[e1,J1u,J1u,h]
end
theorem J5h {α:Type} {m:AL α} {k:ByteArray} {v:α} (hn:(m.map Prod.fst).Nodup):((J22 m k v).map Prod.fst).Nodup:=by
 unfold J22;cases h:J7 m k with
 |some x=>
  simp only[Option.isSome_some,if_true]
  have e:(Jbs m k v).map Prod.fst=m.map Prod.fst:=by
   simp only[Jbs,List.map_map];apply List.map_congr_left
   intro p _
   simp only[Function.comp];split
   ·rename_i e;exact e.symm
   ·rfl
  rw[e];exact hn
 |none=>
  simp only[Option.isSome_none,Bool.false_eq_true,if_false,List.map_append,List.map_cons,List.map_nil];rw[List.nodup_append];refine⟨hn,by simp,?_⟩
  intro a ha b hb
  simp only[List.mem_cons,List.not_mem_nil,or_false] at hb;subst hb;rintro rfl;obtain⟨p,hp,he⟩:=List.mem_map.1 ha
  simp only[J7,Option.map_eq_none_iff,List.find?_eq_none] at h;exact h p hp (by simpa using he)
theorem J2y {α:Type} {m:AL α} {k:ByteArray} (hn:(m.map Prod.fst).Nodup):((Jk m k).map Prod.fst).Nodup:=(List.filter_sublist.map Prod.fst).nodup hn
inductive SliceHp (k:Nat) (T:TypeId):Value->Nat->List Value->Hp->Prop where
 |nil:SliceHp k T (.slice none 0 0) 0 [] []
 |laid (g n cap:Nat) (xs rest:List Value) (hx:xs.length=n*k) (hr:rest.length=(cap - n)*k) (hn:n<=cap) (hc:cap<=maxLen):
  SliceHp k T (.slice (some ⟨g,0,none⟩) n cap) n xs [(g,.cells (xs++rest).toArray T (0,0))]
theorem SliceHp.len {T:TypeId} {n:Nat} (h:SliceHp k T v n xs l):xs.length=n*k:=by
 cases h with
 |nil=>simp
 |laid g n cap xs rest hx hr hn hc=>exact hx
theorem Jh {ops:Array Oper} {rest:List Oper} {o:Oper} {a:Act} {Q:Exit->Act->World->Prop} {v':Value} (hgd:o.guard=none) (s x:Operand) (t t2:TypeId)
 (ho:o.op= .call {callee:=.builtin .append,args:=#[s,x],argTypes:=#[t,t2]}) (v vx:Value) (hs:a.eval s=v) (hx:a.eval x=vx)
 (hrun:(Builtin.append_ #[t,t2] o.type #[v,vx]).run P w= .ok v' w') (h:wpList P ops Q rest (a.put o.dst v') w'):wpList P ops Q (o::rest) a w:=by
  refine wpList_plain hgd fun K hK=>?_
  unfold Oper.wp execOp;simp only[ho,resolve,invoke,builtin,Sem.run_bind,Sem.run_pure,Result.andThen_ok,List.map_toArray,List.map_cons,List.map_nil,hs,hx,hrun];exact hK _ _ h
theorem Jbf {t2 e e2 ty:TypeId} (ht:P.underlying t=some (.slice e)) (ht2:P.underlying t2=some (.slice e2)) (s x:Value) (w:World):
 (Builtin.append_ #[t,t2] ty #[s,x]).run P w=(Builtin.append_ #[t,t] ty #[s,x]).run P w:=by
 cases s<;>simp[Builtin.append_,run_underlying ht,run_underlying ht2]
theorem J3m (z:Array Value) (n:Nat):(Builtin.zeroCells z n).toList.length=n*z.size:=by simp[Builtin.zeroCells]
theorem J0c {t2 e ty e2:TypeId} {z:Value} {bytes:Nat} (ht:P.underlying t=some (.slice e)) (ht2:P.underlying t2=some (.slice e2))
 (hinfo:(P.info? e).map (fun i=>(i.zero,i.size,i.bytes))=some (some z,k,bytes)) (hzs:z.cells.size=k) (hk:0<k)
 {sl:Hp} {n:Nat} (hS:J1 w0 l w (sl++r)) (hsl:SliceHp k e v n xs sl)
 (a:Addr) (m c:Nat) (news:List Value) (hl:news.length=m*k) (hnews:∀j u,news[j]? =some u->w.cell? (a.add j)=some u) (h1:∀u∈news,u.oneCell'=true)
 (hm:0<m) (hbytes:(n+m)*bytes<=140737488355328) (h63:n+m<=maxLen):
  ∃v' w' sl',(Builtin.append_ #[t,t2] ty #[v,.slice (some a) m c]).run P w= .ok v' w'/\SliceHp k e v' (n+m) (xs++news) sl'/\J1 w0 l w' (sl'++r)/\(∀b,b∈keys sl'->b∈keys sl\/w.heap.size<=b):=by
  obtain⟨i,hi,hz,hsz,hby⟩:=info_parts hinfo
  have hsmall:n+m<=9223372036854775807:=by simp only[maxLen] at h63;omega
  subst hsz;rw[Jbf ht ht2];have hge:∀old,n+m<=grownCap w (n+m) old e:=fun old=>grownCap_ge w (n+m) old e
  have hcm:∀old,grownCap w (n+m) old e<=maxLen:=fun old=>grownCap_le_maxLen w (n+m) old e h63
  have grow:∀(old:Nat) (sl0:Hp),J1 w0 l w (sl0++r)->xs.length=n*i.size->
   SliceHp i.size e (.slice (some ⟨w.heap.size,0,none⟩) (n+m) (grownCap w (n+m) old e)) (n+m) (xs++news) [(w.heap.size,.cells ((xs++news)++(Builtin.zeroCells z.cells (grownCap w (n+m) old e - (n+m))).toList).toArray e (0,0))]/\
   J1 w0 l (w.drew.alloc (.cells (xs.toArray++news.toArray++Builtin.zeroCells z.cells (grownCap w (n+m) old e - (n+m))) e)) ([(w.heap.size,.cells ((xs++news)++(Builtin.zeroCells z.cells (grownCap w (n+m) old e - (n+m))).toList).toArray e (0,0))]++r):=by
   intro old sl0 hS0 hxl
   refine⟨.laid _ _ _ _ _ ?_ ?_ (hge old) (hcm old),?_⟩
   ·rw[List.length_append,hxl,hl,Nat.add_mul]
   ·rw[J3m,hzs]
   ·have e1:(Obj.cells (xs.toArray++news.toArray++Builtin.zeroCells z.cells (grownCap w (n+m) old e - (n+m))) e)= .cells ((xs++news)++(Builtin.zeroCells z.cells (grownCap w (n+m) old e - (n+m))).toList).toArray e (0,0):=by
     congr 1
     apply Array.toList_inj.1
     simp
    rw[e1];have hd:=hS0.drew.alloc (.cells ((xs++news)++(Builtin.zeroCells z.cells (grownCap w (n+m) old e - (n+m))).toList).toArray e (0,0));exact hd.less (List.Sublist.cons_cons _ (List.sublist_append_right _ _))
  cases hsl with
  |nil=>
   have hr:=run_append_nil (P:=P) (ty:=ty) w t e i z ht hi hz a m c news hl hnews hm (by omega) (by rw[hby];simp only[Nat.zero_add] at hbytes;omega)
   have hg:=grow 0 [] hS (by simp)
   simp only[Nat.zero_add,List.nil_append] at hg⊢;refine⟨_,_,_,hr,hg.1,?_,?_⟩
   ·have:=hg.2
    simpa using this
   ·intro b hb;simp at hb;exact .inr (by omega)
  |laid g n cap xs rest hx hr hn hc=>
   have hg:=hS.own.left.head;by_cases hroom:n+m<=cap
   ·have hfit:n*i.size+news.length<=((xs++rest).toArray).size:=by
     rw[hl,List.size_toArray,List.length_append,hx,hr,<-Nat.add_mul,<-Nat.add_mul];exact Nat.mul_le_mul_right _ (by omega)
    have hrun:=run_append_room (P:=P) (ty:=ty) w t e i ht hi g n cap _ hg a m c news hl hnews h1 hroom hfit
    have e1:((xs++rest).toArray.toList.take (n*i.size)++news++(xs++rest).toArray.toList.drop (n*i.size+news.length))=(xs++news)++rest.drop news.length:=by
     simp only[<-hx];simp[List.drop_append]
    rw[e1] at hrun;refine⟨_,_,[(g,.cells ((xs++news)++rest.drop news.length).toArray e (0,0))],hrun,.laid g (n+m) cap _ _ ?_ ?_ hroom hc,?_,?_⟩
    ·rw[List.length_append,hx,hl,Nat.add_mul]
    ·rw[List.length_drop,hr,hl,<-Nat.sub_mul];congr 1;omega
    ·exact J1.put hS (by simp[World.setRow]) (setRow_heap w g _ _ e _ hg) (fun k hk=>setRow_other w g k _ hk) rfl rfl
    ·intro b hb;exact .inl (by simpa using hb)
   ·have holds:∀j u,xs[j]? =some u->w.cell? ((⟨g,0,none⟩:Addr).add j)=some u:=by
     intro j u hu
     have hadd:(⟨g,0,none⟩:Addr).add j=⟨g,j,none⟩:=by unfold Addr.add;split<;>simp_all
     rw[hadd,J0 hg];have hj:j<xs.length:=(List.getElem?_eq_some_iff.1 hu).1;simp only[List.getElem?_toArray];rw[List.getElem?_append_left hj,hu]
    have hrun:=run_append_grow (P:=P) (ty:=ty) w t e i z ht hi hz ⟨g,0,none⟩ n cap xs hx holds a m c news hl hnews (by omega) (by omega) (growslice_fits (by omega) (by rw[hby];exact hbytes))
    have hgr:=grow cap _ hS hx;exact⟨_,_,_,hrun,hgr.1,hgr.2,fun b hb=>by simp at hb;exact .inr (by omega)⟩
abbrev Fs:=List (ByteArray×ByteArray)
variable {fs:Fs}
def K9:Fs->List Value
 |[]=>[]
 |f::fs=>.string f.1:: .string f.2::K9 fs
theorem J2i:∀fs:Fs,(K9 fs).length=fs.length*2
 |[]=>rfl
 |f::fs=>by simp only[K9,List.length_cons,J2i fs];omega
theorem J7n:∀(fs:Fs),∀u∈K9 fs,u.oneCell'=true
 |[],u,h=>by cases h
 |f::fs,u,h=>by
  rcases List.mem_cons.1 h with rfl|h
  ·rfl
  rcases List.mem_cons.1 h with rfl|h
  ·rfl
  exact J7n fs u h
theorem J2t:∀(fs:Fs) (i:Nat) (f:ByteArray×ByteArray),fs[i]? =some f->(K9 fs)[2*i]? =some (.string f.1)/\(K9 fs)[2*i+1]? =some (.string f.2)
 |[],i,f,h=>by simp at h
 |g::fs,0,f,h=>by simp at h;subst h;exact⟨rfl,rfl⟩
 |g::fs,i+1,f,h=>by
  have:=J2t fs i f (by simpa using h)
  simpa only[K9,Nat.mul_add,Nat.mul_one,List.getElem?_cons_succ,show 2*i+2+1=(2*i+1)+1+1 from rfl,show 2*i+2=(2*i)+1+1 from rfl] using this
structure Jq (v:Value) (fs:Fs) (l:Hp):Prop where
 sl:SliceHp 2 328 v fs.length (K9 fs) l
 nil:fs=[]->v= .slice none 0 0
theorem Jai:(Tryz.prog.info? 328).map (fun i=>(i.zero,i.size,i.bytes))=some (some (.agg #[.string ByteArray.empty,.string ByteArray.empty]),2,32):=by kernel_rfl
theorem SliceHp.view {T:TypeId} {n:Nat} (h:SliceHp k T v n xs l) (hn:0<n):
 ∃g cap rest,v= .slice (some ⟨g,0,none⟩) n cap/\n<=cap/\cap<=maxLen/\l=[(g,.cells (xs++rest).toArray T (0,0))]/\rest.length=(cap - n)*k:=by
 cases h with
 |nil=>omega
 |laid g n cap xs rest hx hr hn hc=>exact⟨g,cap,rest,rfl,hn,hc,rfl,hr⟩
theorem J93 (a:Option Addr) (n c:Nat) (w:World):(binOp .eql 181 (.slice a n c) (.slice none 0 0)).run Tryz.prog w= .ok (.bool a.isNone) w:=
 run_eql_slice_nil (P:=Tryz.prog) w _ _ a n c Tryz.underlying181
theorem J6u {ops:Array Oper} {rest:List Oper} {o:Oper} {a:Act} {Q:Exit->Act->World->Prop} (hg:o.guard=none) (ho:o.op= .buildSlice 181 0 #[])
 (h:wpList Tryz.prog ops Q rest (a.put o.dst (.slice (some ⟨w.heap.size,0,none⟩) 0 0)) (w.alloc (.cells #[] 328))):wpList Tryz.prog ops Q (o::rest) a w:=by
  refine wpList_plain hg fun K hK=>?_
  obtain⟨i,hi,hz,hsz,hby⟩:=info_parts Jai
  unfold Oper.wp execOp;simp only[ho,Sem.run_bind]
  have:(Instr.buildSlice 181 0 #[]).run Tryz.prog w= .ok (.slice (some ⟨w.heap.size,0,none⟩) 0 0) (w.alloc (.cells #[] 328)):=by
   simp[Instr.buildSlice,run_underlying Tryz.underlying181,sizeOf,typeInfo,hi,Instr.fill,newRow];have hr0:Array.range 0= #[]:=by decide
   rw[hr0,Array.map_empty]
  simp only[Array.map_empty];rw[this];simp only[Result.andThen_ok];exact hK _ _ h
theorem Jg5 {sl:Hp} (hS:J1 w0 l w (sl++r)) (hat:Jq v fs sl) (hB:fs.length<=1048576):
 Calls Tryz.prog 240 #[v] w fun e w'=>∃v' sl',e= .returned v'/\Jq v' fs sl'/\J1 w0 l w' (sl'++(sl++r)):=by
 by_cases hz:fs=[]
 ·subst hz
  obtain rfl:=hat.nil rfl;have hfin:Hid (∃v' sl',Value.slice none 0 0=v'/\Jq v' [] sl'/\J1 w0 l w (sl'++(sl++r))):=⟨_,[],rfl,⟨.nil,fun _=>rfl⟩,hS⟩
  have hq:=J93 none 0 0;go_enter Tryz.func240,Tryz.ntmps240;go_wp2
  go_ret;obtain⟨v',sl',rfl,h⟩:=hfin.out
  exact⟨_,_,rfl,h⟩
 ·have hn:0<fs.length:=List.length_pos_iff.2 hz
  obtain⟨g,cap,rest,rfl,hc,hc2,rfl,hrest⟩:=hat.sl.view hn
  have S1:=hS.alloc (.cells #[] 328);have hg:=S1.own.tail.head
  obtain⟨v',w2,sl',hrun,hsl',S2,_⟩:=J0c (P:=Tryz.prog) (ty:=181) Tryz.underlying181 Tryz.underlying181 Jai rfl (by decide)
   (sl:=[(w.heap.size,.cells #[] 328)]) S1 (.laid w.heap.size 0 0 [] [] rfl rfl (Nat.le_refl _) (by decide))
   ⟨g,0,none⟩ fs.length cap (K9 fs) (J2i fs) (by
    intro j u hu
    have hadd:(⟨g,0,none⟩:Addr).add j=⟨g,j,none⟩:=by unfold Addr.add;split<;>simp_all
    rw[hadd,J0 hg];have hj:j<(K9 fs).length:=(List.getElem?_eq_some_iff.1 hu).1;simp only[List.getElem?_toArray];rw[List.getElem?_append_left hj,hu]) (J7n fs) hn (by omega) (by unfold maxLen;omega)
  simp only[Nat.zero_add,List.nil_append] at hsl';have hfin:Hid (∃v'' sl',v'=v''/\Jq v'' fs sl'/\J1 w0 l w2 (sl'++([(g,.cells (K9 fs++rest).toArray 328 (0,0))]++r))):=⟨_,sl',rfl,⟨hsl',fun h=>absurd h hz⟩,S2⟩
  clear S1 S2 hg hat hS hsl';replace hrun:=hid hrun;have hq:=J93 (some ⟨g,0,none⟩) fs.length cap;go_enter Tryz.func240,Tryz.ntmps240;go_wp2_with (first|(at_builtin;refine Jh rfl _ _ _ _ rfl _ _ rfl rfl hrun.out ?_)|(refine J6u rfl rfl ?_))
  go_ret;obtain⟨v'',sl',rfl,h⟩:=hfin.out
  exact⟨_,_,rfl,h⟩
def J9i (a b:ByteArray):Int:=Lib.compareBytes a.data.toList b.data.toList
theorem J69 (a b:ByteArray) (w:World):
 Calls Tryz.prog 342 #[.string a,.string b] w fun e w'=>e= .returned (.int .i64 (J9i a b))/\w'=w:=by
 go_enter Tryz.func342,Tryz.ntmps342;go_wp2
 rw[run_callFunc_extern Tryz.func362 (by kernel_rfl) (by kernel_rfl) (by kernel_rfl) (e:=Extern.BytealgCompare.compare) (by kernel_rfl),Lib.run_compareString]
 simp only[Result.andThen];rw[Oper.upon_value];go_wp2
 go_ret;exact⟨rfl,rfl⟩
theorem Jcv (a b:ByteArray) (w:World):
 Calls Tryz.prog 316 #[.string a,.string b] w fun e w'=>e= .returned (.int .i64 (J9i a b))/\w'=w:=by
 go_enter Tryz.func316,Tryz.ntmps316;go_wp2_with (go_at_call 342;refine(J69 _ _ _).mono ?_;rintro e w' ⟨rfl,rfl⟩);go_ret;exact⟨rfl,rfl⟩
def Jd6 (f:ByteArray×ByteArray):Value:=.agg #[.string f.1,.string f.2]
theorem Jej (hS:J1 w0 l w r) (f g:ByteArray×ByteArray):
 Calls Tryz.prog 274 #[Jd6 f,Jd6 g] w fun e w'=>e= .returned (.int .i64 (J9i f.1 g.1))/\J1 w0 l w' r:=by
 go_enter Tryz.func274,Tryz.ntmps274;unfold Jd6;go_wp2_with (go_at_call 316;refine(Jcv _ _ _).mono ?_;rintro e w' ⟨rfl,rfl⟩);go_ret;exact⟨rfl,((hS.alloc _).alloc _).less ((List.sublist_cons_self _ _).trans (List.sublist_cons_self _ _))⟩
def Jg1 (fs:Fs):Prop:=fs.Pairwise fun f g=>J9i f.1 g.1<0
def pos (fs:Fs) (name:ByteArray):Nat:=(fs.takeWhile fun f=>decide (J9i f.1 name<0)).length
theorem Jj1:∀(fs:Fs) (name:ByteArray) (k:Nat),k<=fs.length->(∀(i:Nat) (f:ByteArray×ByteArray),i<k->fs[i]? =some f->J9i f.1 name<0)->
 (∀f:ByteArray×ByteArray,fs[k]? =some f->¬J9i f.1 name<0)->pos fs name=k
 |[],name,k,h,_,_=>by simp at h;subst h;rfl
 |f::fs,name,0,_,_,h2=>by
  have:=h2 f rfl
  simp[pos,this]
 |f::fs,name,k+1,h,h1,h2=>by
  have a:=h1 0 f (by omega) rfl
  have ih:=Jj1 fs name k (by simpa using h) (fun i g hi hg=>h1 (i+1) g (by omega) (by simpa using hg)) (fun g hg=>h2 g (by simpa using hg))
  simp only[pos] at ih⊢;simp[a,ih]
theorem Jl3 (h:Jg1 fs) {i j:Nat} {f g:ByteArray×ByteArray} (hij:i<j) (hf:fs[i]? =some f) (hg:fs[j]? =some g):J9i f.1 g.1<0:=by
 have hi:=(List.getElem?_eq_some_iff.1 hf);have hj:=(List.getElem?_eq_some_iff.1 hg);obtain⟨hi,rfl⟩:=hi
 obtain⟨hj,rfl⟩:=hj
 exact List.pairwise_iff_getElem.1 h i j hi hj hij
structure Jkc (fs:Fs) (name:ByteArray) (lo hi:Nat):Prop where
 le:lo<=hi
 top:hi<=fs.length
 lt:∀(i:Nat) (f:ByteArray×ByteArray),i<lo->fs[i]? =some f->J9i f.1 name<0
 ge:∀(i:Nat) (f:ByteArray×ByteArray),hi<=i->fs[i]? =some f->¬J9i f.1 name<0
theorem Jkc.start (fs:Fs) (name:ByteArray):Jkc fs name 0 fs.length:=
 ⟨Nat.zero_le _,Nat.le_refl _,fun i f h=>by omega,fun i f h hf=>by have:=(List.getElem?_eq_some_iff.1 hf).1;omega⟩
theorem Jkc.done {name:ByteArray} (h:Jkc fs name k k):pos fs name=k:=
 Jj1 fs name k h.top h.lt (fun f hf=>h.ge k f (Nat.le_refl _) hf)
end Go.Proofs.YtefjbegnlolgbaaGreatDoor
