/-
A Store between two commands, with blocks beside it; sets of texts as maps; great at one act of the law's own.
-/
import Derived.Test.YtncbcaabanoeoaaGreatDoorQ43
import Derived.Test.YtncbcaabanoeoaaGreatDoorR05
set_option linter.unusedVariables false
set_option linter.unusedSimpArgs false
set_option maxRecDepth 100000
set_option maxHeartbeats 8000000
namespace Go.Proofs.YtncbcaabanoeoaaGreatDoor
open Go Go.RowKit
variable {w:World}
section
variable {w0 w:World} {l r:Hp} {sb:Nat} {S:St} {B:Nat}
theorem Jaw.beside (h:Jaw w0 w l r sb S B) (o:Obj):Jaw w0 (w.alloc o) l ((w.heap.size,o)::r) sb S B:=
 ⟨(h.st.alloc o).permR (J5 fun f=>by simp only[SC];omega),h.is,h.ok⟩
end
def J51 (o:Obj) (ks:List ByteArray):Prop:=∃m:AL Value,J2a o m/\(m.map Prod.fst).Nodup/\(∀x v,Je m x=some v->v= .int .i64 1)/\∀x∈ks,Je m x=some (.int .i64 1)
theorem J51.empty:J51 (.map #[] 0) []:=⟨[],J2a.empty,List.nodup_nil,fun x v h=>by simp[Je] at h,fun x h=>by cases h⟩
theorem Jee {m:AL Value} {k x:ByteArray} {v:Value}:Je (J2q m k v) x=if x=k then some v else Je m x:=by
 unfold J2q;split
 ·rename_i hs
  induction m with
  |nil=>simp[Je] at hs
  |cons p m ih=>
   unfold mset Je at *;simp only[List.map_cons,List.find?_cons] at hs⊢;by_cases hp:p.1=k
   ·subst hp
    by_cases hx:x=p.1
    ·subst hx;simp
    ·have hx2:¬p.1=x:=fun e=>hx e.symm
     simp only[if_true,decide_eq_false hx2,if_neg hx];clear ih hs;induction m with
     |nil=>rfl
     |cons q m ih=>
      simp only[List.map_cons,List.find?_cons];by_cases hq:q.1=p.1
      ·rw[if_pos hq]
       simp only[decide_eq_false hx2,decide_eq_false (show ¬q.1=x by rw[hq];exact hx2)]
       exact ih
      ·rw[if_neg hq]
       by_cases hqx:q.1=x
       ·simp[hqx]
       ·simp only[decide_eq_false hqx];exact ih
   ·simp only[decide_eq_false hp,if_neg hp] at hs⊢
    by_cases hx:p.1=x
    ·have hx2:¬x=k:=fun e=>hp (hx.trans e)
     simp[hx,hx2]
    ·simp only[decide_eq_false hx]
     exact ih hs
 ·rename_i hs
  have hn:Je m k=none:=by simpa using hs
  unfold Je at hn⊢;rw[List.find?_append];by_cases hx:x=k
  ·subst hx
   simp only[Option.map_eq_none_iff] at hn;simp[hn]
  ·have hx2:¬k=x:=fun e=>hx e.symm
   simp[hx,hx2]
theorem J51.put {o:Obj} {ks:List ByteArray} (h:J51 o ks) {r:Nat} (hr:w.heap[r]? =some o) (x:ByteArray):
 ∃o',(Instr.mapUpdate 38 (.map (some r)) (.string x) (.int .i64 1)).run Tryz.prog w= .ok () {w with heap:=w.heap.setIfInBounds r o'}/\J51 o' (ks++[x]):=by
 obtain⟨m,h1,h2,h3,h4⟩:=h
 obtain⟨o',h5,h6⟩:=Jda (P:=Tryz.prog) (t:=38) Tryz.underlying38 Tryz.underlying9 hr h1 h2 x (.int .i64 1)
 refine⟨o',h5,_,h6,J6j h2,fun y v hv=>?_,fun y hy=>?_⟩
 ·rw[Jee] at hv
  split at hv
  ·exact(Option.some.inj hv).symm
  ·exact h3 y v hv
 ·rw[Jee]
  split
  ·rfl
  ·rename_i hne
   rcases List.mem_append.1 hy with hy|hy
   ·exact h4 y hy
   ·exact absurd (by simpa using hy) hne
theorem Jxk (w:World):(zeroValue 3).run Tryz.prog w= .ok (.int .i64 0) w:=by kernel_rfl
theorem J51.look {o:Obj} {ks:List ByteArray} (h:J51 o ks) {r:Nat} (hr:w.heap[r]? =some o) (x:ByteArray):
 ∃z:Int,(Instr.lookup 38 (.map (some r)) (.string x) false).run Tryz.prog w= .ok (.int .i64 z) w/\(z=0\/z=1)/\(x∈ks->z=1):=by
 obtain⟨m,h1,h2,h3,h4⟩:=h
 have h5:=Jrr (P:=Tryz.prog) (t:=38) Tryz.underlying38 Tryz.underlying9 Jxk hr h1 x;cases hm:Je m x with
 |none=>exact⟨0,by rw[h5,hm];rfl,.inl rfl,fun hx=>by rw[h4 x hx] at hm;cases hm⟩
 |some v=>
  obtain rfl:=h3 x v hm;exact⟨1,by rw[h5,hm];rfl,.inr rfl,fun _=>rfl⟩
def Jil (w0:World) (r:Hp) (ws:List ByteArray) (e:Ending) (w':World):Prop:=∃b:Bool,e= .returned (.bool b)/\(b=false->ws.length<=70/\∀s∈ws,s.size<=4500)/\J3 w0 [] w' r
theorem Jqf {w0:World} {r:Hp} (hS:J3 w0 [] w r) {v:Value} {ws:List ByteArray} (hw:J5o w0 v ws):
 Calls Tryz.prog 6 #[.slice (some ⟨w.heap.size,0,none⟩) 1 1,.int .i64 1] (w.alloc (.cells #[v,.int .u16 0] 28)) (Jil w0 r ws):=by
 have S1:=hS.alloc (.cells #[v,.int .u16 0] 28);have hb:=S1.own.head
 have hA:Jgu (w.alloc (.cells #[v,.int .u16 0] 28)) (.slice (some ⟨w.heap.size,0,none⟩) 1 1) [⟨v,ws,0⟩]:=by
  refine⟨_,1,rfl,Nat.le_refl _,by decide,fun i x hx=>?_⟩
  have hi:i<1:=(List.getElem?_eq_some_iff.1 hx).1;obtain rfl:i=0:=by omega
  obtain rfl:=Option.some.inj hx;refine⟨?_,Nat.zero_le _,_,0,rfl,Jf hb,J2 hb 0,J2 hb 1⟩
  obtain⟨a,cap,rfl,h1,h2,h3⟩:=hw
  refine⟨a,cap,rfl,h1,h2,fun i s hs=>?_⟩
  obtain⟨h4,g,off,h5,h6,h7⟩:=h3 i s hs
  exact⟨h4,g,off,h5,Nat.lt_of_lt_of_le h6 S1.size,S1.in_ h6 h7⟩
 refine(Jg1 (J3.start _) hA 1 (by decide)).mono ?_
 rintro e w' ⟨b,rfl,h1,h2⟩;refine⟨b,rfl,fun h=>(h1 h).2 _ (List.mem_cons_self ..),?_⟩
 exact(S1.beginning h2).less (List.sublist_cons_self _ _)
end Go.Proofs.YtncbcaabanoeoaaGreatDoor
