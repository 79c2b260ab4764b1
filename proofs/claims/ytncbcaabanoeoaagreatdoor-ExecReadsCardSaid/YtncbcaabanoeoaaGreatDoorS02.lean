/-
A Store between two commands, with blocks beside it; sets of texts as maps; great at one act of the law's own.
-/
import Derived.Maps.RangeRun
import Derived.Test.YtncbcaabanoeoaaGreatDoorQ43
import Derived.Test.YtncbcaabanoeoaaGreatDoorR05
import Derived.Test.YtncbcaabanoeoaaGreatDoorS01
set_option linter.unusedVariables false
set_option linter.unusedSimpArgs false
set_option maxRecDepth 100000
set_option maxHeartbeats 8000000
namespace Go.Proofs.YtncbcaabanoeoaaGreatDoor
open Go Go.RowKit
variable {w:World}
section
variable {w0 w:World} {l r:Hp} {sb:Nat} {S:St} {B:Nat}
theorem Jaw.beside (h:Jaw w0 w l r sb S B) (o:Obj):Jaw w0 (w.alloc o) l ((w.heap.size,o)::r) sb S B:=
 ⟨(h.st.alloc o).permR (J5 fun f=>by simp only[SC];omega),h.is,h.ok⟩
end
def J51 (o:Obj) (ks:List ByteArray):Prop:=∃m:AL Value,J2a o m/\(m.map Prod.fst).Nodup/\(∀x v,Je m x=some v->v= .int .i64 1)/\∀x∈ks,Je m x=some (.int .i64 1)
theorem J51.empty:J51 (.map #[] 0) []:=⟨[],J2a.empty,List.nodup_nil,fun x v h=>by simp[Je] at h,fun x h=>by cases h⟩
theorem Jee {m:AL Value} {k x:ByteArray} {v:Value}:Je (J2q m k v) x=if x=k then some v else Je m x:=by
 unfold J2q;split
 ·rename_i hs
  induction m with
  |nil=>simp[Je] at hs
  |cons p m ih=>
   unfold mset Je at *;simp only[List.map_cons,List.find?_cons] at hs⊢;by_cases hp:p.1=k
   ·subst hp
    by_cases hx:x=p.1
    ·subst hx;simp
    ·have hx2:¬p.1=x:=fun e=>hx e.symm
     simp only[if_true,decide_eq_false hx2,if_neg hx];clear ih hs;induction m with
     |nil=>rfl
     |cons q m ih=>
      simp only[List.map_cons,List.find?_cons];by_cases hq:q.1=p.1
      ·rw[if_pos hq]
       simp only[decide_eq_false hx2,decide_eq_false (show ¬q.1=x by rw[hq];exact hx2)]
       exact ih
      ·rw[if_neg hq]
       by_cases hqx:q.1=x
       ·simp[hqx]
       ·simp only[decide_eq_false hqx];exact ih
   ·simp only[decide_eq_false hp,if_neg hp] at hs⊢
    by_cases hx:p.1=x
    ·have hx2:¬x=k:=fun e=>hp (hx.trans e)
     simp[hx,hx2]
    ·simp only[decide_eq_false hx]
     exact ih hs
 ·rename_i hs
  have hn:Je m k=none:=by simpa using hs
  unfold Je at hn⊢;rw[List.find?_append];by_cases hx:x=k
  ·subst hx
   simp only[Option.map_eq_none_iff] at hn;simp[hn]
  ·have hx2:¬k=x:=fun e=>hx e.symm
   simp[hx,hx2]
theorem J51.put {o:Obj} {ks:List ByteArray} (h:J51 o ks) {r:Nat} (hr:w.heap[r]? =some o) (x:ByteArray):
 ∃o',(Instr.mapUpdate 38 (.map (some r)) (.string x) (.int .i64 1)).run Tryz.prog w= .ok () {w with heap:=w.heap.setIfInBounds r o'}/\J51 o' (ks++[x]):=by
 obtain⟨m,h1,h2,h3,h4⟩:=h
 obtain⟨o',h5,h6⟩:=Jda (P:=Tryz.prog) (t:=38) Tryz.underlying38 Tryz.underlying9 hr h1 h2 x (.int .i64 1)
 refine⟨o',h5,_,h6,J6j h2,fun y v hv=>?_,fun y hy=>?_⟩
 ·rw[Jee] at hv
  split at hv
  ·exact(Option.some.inj hv).symm
  ·exact h3 y v hv
 ·rw[Jee]
  split
  ·rfl
  ·rename_i hne
   rcases List.mem_append.1 hy with hy|hy
   ·exact h4 y hy
   ·exact absurd (by simpa using hy) hne
theorem Jxk (w:World):(zeroValue 3).run Tryz.prog w= .ok (.int .i64 0) w:=by kernel_rfl
theorem J51.look {o:Obj} {ks:List ByteArray} (h:J51 o ks) {r:Nat} (hr:w.heap[r]? =some o) (x:ByteArray):
 ∃z:Int,(Instr.lookup 38 (.map (some r)) (.string x) false).run Tryz.prog w= .ok (.int .i64 z) w/\(z=0\/z=1)/\(x∈ks->z=1):=by
 obtain⟨m,h1,h2,h3,h4⟩:=h
 have h5:=Jrr (P:=Tryz.prog) (t:=38) Tryz.underlying38 Tryz.underlying9 Jxk hr h1 x;cases hm:Je m x with
 |none=>exact⟨0,by rw[h5,hm];rfl,.inl rfl,fun hx=>by rw[h4 x hx] at hm;cases hm⟩
 |some v=>
  obtain rfl:=h3 x v hm;exact⟨1,by rw[h5,hm];rfl,.inr rfl,fun _=>rfl⟩
def Jil (w0:World) (r:Hp) (ws:List ByteArray) (e:Ending) (w':World):Prop:=∃b:Bool,e= .returned (.bool b)/\(b=false->ws.length<=70/\∀s∈ws,s.size<=4500)/\J3 w0 [] w' r
theorem Jqf {w0:World} {r:Hp} (hS:J3 w0 [] w r) {v:Value} {ws:List ByteArray} (hw:J5o w0 v ws):
 Calls Tryz.prog 6 #[.slice (some ⟨w.heap.size,0,none⟩) 1 1,.int .i64 1] (w.alloc (.cells #[v,.int .u16 0] 28)) (Jil w0 r ws):=by
 have S1:=hS.alloc (.cells #[v,.int .u16 0] 28);have hb:=S1.own.head
 have hA:Jgu (w.alloc (.cells #[v,.int .u16 0] 28)) (.slice (some ⟨w.heap.size,0,none⟩) 1 1) [⟨v,ws,0⟩]:=by
  refine⟨_,1,rfl,Nat.le_refl _,by decide,fun i x hx=>?_⟩
  have hi:i<1:=(List.getElem?_eq_some_iff.1 hx).1;obtain rfl:i=0:=by omega
  obtain rfl:=Option.some.inj hx;refine⟨?_,Nat.zero_le _,_,0,rfl,Jf hb,J2 hb 0,J2 hb 1⟩
  obtain⟨a,cap,rfl,h1,h2,h3⟩:=hw
  refine⟨a,cap,rfl,h1,h2,fun i s hs=>?_⟩
  obtain⟨h4,g,off,h5,h6,h7⟩:=h3 i s hs
  exact⟨h4,g,off,h5,Nat.lt_of_lt_of_le h6 S1.size,S1.in_ h6 h7⟩
 refine(Jg1 (J3.start _) hA 1 (by decide)).mono ?_
 rintro e w' ⟨b,rfl,h1,h2⟩;refine⟨b,rfl,fun h=>(h1 h).2 _ (List.mem_cons_self ..),?_⟩
 exact(S1.beginning h2).less (List.sublist_cons_self _ _)
end Go.Proofs.YtncbcaabanoeoaaGreatDoor
namespace Go.Proofs.YtncbcaabanoeoaaGreatDoor
open Go Go.RowKit Go.ChangeMaps
variable {T S:St}{K:List ByteArray}{now:Int}
structure Was where
 key:ByteArray
 it:Itm
 v:Value
 sl:Hp
variable {E:List Was}
def Was.val (e:Was):Value:=J6 e.it.kind e.it.text e.v
def K0h (E:List Was):Hp:=E.flatMap Was.sl
theorem K15 (E:List Was) (e:Was):K0h (E++[e])=K0h E++e.sl:=by simp[K0h]
structure K0l (S T:St) (K:List ByteArray) (E:List Was) (now:Int):Prop where
 fit:Fit T
 tight:Kx T
 up:DUp T
 bud:T.bud=S.bud
 sub:∀k∈T.L.map Prod.fst,k∈S.L.map Prod.fst
 has:∀k∈K,(k∈T.L.map Prod.fst ↔ k∈E.map Was.key)
 inK:∀e∈E,e.key∈K
 it:∀e∈E,Je T.L e.key=some e.it
 nd:(E.map Was.key).Nodup
 quiet:∀k∈K,∀t,Je T.D k=some t->now<t
 evs:T.ev.length<=K.length
structure K1w (T U:St) (k:ByteArray) (now:Int):Prop where
 quiet:∀t,Je U.D k=some t->now<t
 other:∀x,x≠k->Je U.L x=Je T.L x/\Je U.D x=Je T.D x
 evs:U.ev.length<=T.ev.length+1
theorem K1k (hf:Fit T) (k:ByteArray) (now:Int):K1w T (T.due k now) k now:=by
 unfold St.due;cases hl:Je T.D k with
 |none=>exact⟨fun t h=>(by rw[hl] at h;cases h),fun x _=>⟨rfl,rfl⟩,by simp⟩
 |some t=>
  simp only
  by_cases ht:t<=now
  ·rw[if_pos ht]
   have hin:(Je T.L k).isSome:=Jbd.2 (hf.ends k (List.mem_map.2 ⟨_,J0v hl,rfl⟩));unfold St.gone;rw[if_pos hin];exact⟨fun t h=>(by simp only[Jct] at h;cases h),fun x hx=>⟨Jmv hx,Jmv hx⟩,by simp⟩
  ·rw[if_neg ht]
   exact⟨fun t' h=>(by rw[hl] at h;have:=Option.some.inj h;omega),fun x _=>⟨rfl,rfl⟩,by simp⟩
theorem K0l.start (hf:Fit S) (hT:Kx S) (hD:DUp S) (he:S.ev=[]) (now:Int):K0l S S [] [] now:=
 ⟨hf,hT,hD,rfl,fun _ h=>h,fun k h=>(nomatch h),fun e h=>(nomatch h),fun e h=>(nomatch h),List.nodup_nil,fun k h=>(nomatch h),by rw[he];exact Nat.le_refl _⟩
theorem K17 (k:ByteArray) (now:Int):∀x∈(T.due k now).L.map Prod.fst,x∈T.L.map Prod.fst:=by
 unfold St.due;split
 ·split
  ·unfold St.gone
   split
   ·exact fun x hx=>(J6h.1 hx).1
   ·exact fun _ h=>h
  ·exact fun _ h=>h
 ·exact fun _ h=>h
theorem K0l.no (h:K0l S T K E now) {k:ByteArray} (hk:k∉K) (hl:Je (T.due k now).L k=none):K0l S (T.due k now) (K++[k]) E now:=by
 have d:=K1k h.fit k now;refine⟨h.fit.due k now,h.tight.due k now,h.up.due k now,(Jaa T k now).trans h.bud,fun x hx=>h.sub x (K17 k now x hx),fun x hx=>?_,fun e he=>List.mem_append_left _ (h.inK e he),fun e he=>?_,h.nd,fun x hx t ht=>?_,?_⟩
 ·rcases List.mem_append.1 hx with hx|hx
  ·have hne:x≠k:=fun e=>hk (e▸hx)
   rw[<-h.has x hx,<-Jbd,<-Jbd,(d.other x hne).1]
  ·simp only[List.mem_cons,List.not_mem_nil,or_false] at hx
   subst hx;constructor
   ·intro hm
    rw[<-Jbd,hl] at hm;cases hm
   ·intro hm
    obtain⟨e,he,hek⟩:=List.mem_map.1 hm
    exact absurd (hek▸h.inK e he) hk
 ·rw[(d.other _ (fun e2=>hk (e2▸h.inK e he))).1];exact h.it e he
 ·rcases List.mem_append.1 hx with hx|hx
  ·have hne:x≠k:=fun e=>hk (e▸hx)
   rw[(d.other x hne).2] at ht;exact h.quiet x hx t ht
  ·simp only[List.mem_cons,List.not_mem_nil,or_false] at hx
   subst hx;exact d.quiet t ht
 ·have:=d.evs;have:=h.evs;rw[List.length_append];simp only[List.length_cons,List.length_nil];omega
theorem K0l.yes (h:K0l S T K E now) {k:ByteArray} (hk:k∉K) {it:Itm} (hl:Je (T.due k now).L k=some it) (v:Value) (sl:Hp):K0l S (T.due k now) (K++[k]) (E++[⟨k,it,v,sl⟩]) now:=by
 have d:=K1k h.fit k now
 have hkE:k∉E.map Was.key:=fun hm=>by
  obtain⟨e,he,hek⟩:=List.mem_map.1 hm
  exact hk (hek▸h.inK e he)
 refine⟨h.fit.due k now,h.tight.due k now,h.up.due k now,(Jaa T k now).trans h.bud,fun x hx=>h.sub x (K17 k now x hx),fun x hx=>?_,fun e he=>?_,fun e he=>?_,?_,fun x hx t ht=>?_,?_⟩
 ·rw[List.map_append,List.mem_append]
  rcases List.mem_append.1 hx with hx|hx
  ·have hne:x≠k:=fun e=>hk (e▸hx)
   rw[<-h.has x hx,<-Jbd,<-Jbd,(d.other x hne).1];simp[hne]
  ·simp only[List.mem_cons,List.not_mem_nil,or_false] at hx
   subst hx;rw[<-Jbd,hl];simp
 ·rcases List.mem_append.1 he with he|he
  ·exact List.mem_append_left _ (h.inK e he)
  ·simp only[List.mem_cons,List.not_mem_nil,or_false] at he
   subst he;simp
 ·rcases List.mem_append.1 he with he|he
  ·rw[(d.other _ (fun e2=>hk (e2▸h.inK e he))).1];exact h.it e he
  ·simp only[List.mem_cons,List.not_mem_nil,or_false] at he
   subst he;exact hl
 ·rw[List.map_append,List.nodup_append]
  refine⟨h.nd,by simp,?_⟩
  intro a ha b hb e
  simp only[List.map_cons,List.map_nil,List.mem_cons,List.not_mem_nil,or_false] at hb;subst hb;subst e;exact hkE ha
 ·rcases List.mem_append.1 hx with hx|hx
  ·have hne:x≠k:=fun e=>hk (e▸hx)
   rw[(d.other x hne).2] at ht;exact h.quiet x hx t ht
  ·simp only[List.mem_cons,List.not_mem_nil,or_false] at hx
   subst hx;exact d.quiet t ht
 ·have:=d.evs;have:=h.evs;rw[List.length_append];simp only[List.length_cons,List.length_nil];omega
theorem K0l.end_ (h:K0l S T K E now) (hK:∀k∈S.L.map Prod.fst,k∈K):K0i T now/\T.L.length=E.length:=by
 refine⟨fun p hp=>?_,?_⟩
 ·have hk:=hK p.1 (h.sub p.1 (h.fit.ends p.1 (List.mem_map.2 ⟨p,hp,rfl⟩)))
  exact h.quiet p.1 hk p.2 (Jr5 h.fit.dnd hp)
 ·have hp:(T.L.map Prod.fst).Perm (E.map Was.key):=(List.perm_ext_iff_of_nodup h.fit.nd h.nd).2 fun x=>⟨fun hx=>(h.has x (hK x (h.sub x hx))).1 hx,fun hx=>by
   obtain⟨e,he,rfl⟩:=List.mem_map.1 hx
   exact(h.has _ (h.inK e he)).2 hx⟩
  have:=hp.length_eq
  rwa[List.length_map,List.length_map] at this
def K0m (o:Obj) (E:List Was):Prop:=∃es clock,o= .map es clock/\es.toList.map (fun e=>(e.key,e.val))=E.map (fun e=>(Value.string e.key,e.val))/\(∀x∈es.toList,x.born<clock)/\(es.toList.map (·.born)).Nodup
theorem K0m.empty:K0m (.map #[] 0) []:=⟨#[],0,rfl,rfl,fun x h=>by simp at h,by simp⟩
theorem K0m.put {o:Obj} (h:K0m o E) {w:World} {r:Nat} (hr:w.heap[r]? =some o) (e:Was) (hn:e.key∉E.map Was.key):
 ∃o',(Instr.mapUpdate 48 (.map (some r)) (.string e.key) e.val).run Tryz.prog w= .ok () {w with heap:=w.heap.setIfInBounds r o'}/\K0m o' (E++[e]):=by
 obtain⟨es,clock,rfl,h1,h2,h3⟩:=h
 have hg:(Sem.getObj r Sem.pure).run Tryz.prog w= .ok (.map es clock) w:=by simp[Sem.run,hr]
 have hset:∀o',(setObj r o':Sem Unit).run Tryz.prog w= .ok () {w with heap:=w.heap.setIfInBounds r o'}:=by
  intro o'
  show(Sem.setObj r o' (Sem.pure ())).run Tryz.prog w=_
  simp[Sem.run,hr]
 have hm:es.toList.map (fun e=>(e.key,e.val))=((E.map fun e=>(e.key,e.val)):AL Value).map (fun p=>(Value.string p.1,p.2)):=by rw[h1,List.map_map];rfl
 have hf:(((E.map fun e=>(e.key,e.val)):AL Value).findIdx? (fun p=>decide (p.1=e.key)))=none:=by
  rw[List.findIdx?_eq_none_iff];intro p hp
  obtain⟨x,hx,rfl⟩:=List.mem_map.1 hp
  simp only[decide_eq_false_iff_not];exact fun ek=>hn (ek▸List.mem_map.2 ⟨x,hx,rfl⟩)
 refine⟨.map (es.push {key:=.string e.key,val:=e.val,born:=clock}) (clock+1),?_,_,_,rfl,?_,?_,?_⟩
 ·unfold Instr.mapUpdate
  simp only[Sem.run_bind,run_underlying Tryz.underlying48,Result.andThen_ok,Sem.run_pure];rw[show(getObj r:Sem Obj)=Sem.getObj r Sem.pure from rfl,hg];simp only[Sem.run_bind,Result.andThen_ok,Sem.run_pure,J2g Tryz.underlying9,J2z Tryz.underlying9 hm,hf,Option.bind_none];exact hset _
 ·simp[h1]
 ·intro x hx
  simp only[Array.toList_push,List.mem_append,List.mem_cons,List.not_mem_nil,or_false] at hx;rcases hx with hx|rfl
  ·have:=h2 x hx;omega
  ·simp
 ·rw[Array.toList_push,List.map_append,List.nodup_append]
  refine⟨h3,by simp,?_⟩
  intro a ha b hb e2
  simp only[List.map_cons,List.map_nil,List.mem_cons,List.not_mem_nil,or_false] at hb;obtain⟨x,hx,rfl⟩:=List.mem_map.1 ha
  have:=h2 x hx
  omega
theorem K1i {es:Array MapEntry} (h:es.toList.map (fun e=>(e.key,e.val))=E.map (fun e=>(Value.string e.key,e.val))) {x:MapEntry} (hx:x∈es.toList):∃e∈E,x.key= .string e.key/\x.val=e.val:=by
 have h1:(x.key,x.val)∈E.map (fun e=>(Value.string e.key,e.val)):=h▸List.mem_map.2 ⟨x,hx,rfl⟩
 obtain⟨e,he,hq⟩:=List.mem_map.1 h1
 simp only[Prod.mk.injEq] at hq;exact⟨e,he,hq.1.symm,hq.2.symm⟩
end Go.Proofs.YtncbcaabanoeoaaGreatDoor
