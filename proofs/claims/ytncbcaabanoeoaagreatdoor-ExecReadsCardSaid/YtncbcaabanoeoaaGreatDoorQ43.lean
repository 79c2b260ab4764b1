/-
What a command of keys does are moves at its own keys. Plain (no program in sight).
-/
import Derived.Lay
import Derived.OpenShut
import Derived.ProofKit
import Derived.WalkKit
import Derived.Test.YtncbcaabanoeoaaGreatDoorQ13
import Derived.Test.YtncbcaabanoeoaaGreatDoorQ20
import Derived.Test.YtncbcaabanoeoaaGreatDoorQ42
set_option linter.unusedVariables false
set_option linter.unusedSimpArgs false
set_option maxRecDepth 100000
set_option maxHeartbeats 8000000
namespace Go.Proofs.YtncbcaabanoeoaaGreatDoor
open Go
def J9d:List ByteArray->List ByteArray
 |a::_::l=>a::J9d l
 |l=>l
def J0m (sp:Sp) (ws:List ByteArray):List ByteArray:=if sp.first=0 then [] else if sp.last=1 then ws.take 1 else if sp.step=1 then ws else J9d ws
section
variable {now:Int} {own:ByteArray->Prop} {S T:St}
theorem Mv.get (h:Mv now own S T) (k:ByteArray):Mv now own S (T.get k now):=(h.due k).touch k
theorem Mv.putG (h:Mv now own S T) {k:ByteArray} (ho:own k) (it:Itm) (hr:T.putE k it=0->J0e it) (keep:Bool):Mv now own S (T.putG k it keep now):=by
 unfold St.putG;split
 ·rename_i h0
  have h1:=Jbg h0;exact h.put ho it keep h1.1 (hr h0) h1.2.2
 ·exact h.due k
theorem Mv.putT (h:Mv now own S T) {k:ByteArray} (ho:own k) (s:ByteArray) (keep:Bool):Mv now own S (T.putG k (Ji s) keep now):=
 h.putG ho _ (fun h0=>Jf0 (Nat.le_of_not_lt fun hlt=>(Jbg h0).2.1 ⟨rfl,hlt⟩)) keep
theorem Mv.fresh (h:Mv now own S T) {k:ByteArray} (ho:own k) (s:ByteArray) (a:Lf):Mv now own S (J7c T now k s a).1:=h.putT ho s false
theorem Mv.keep (h:Mv now own S T) {k:ByteArray} (ho:own k) {it:Itm} {e:Int} (hit:e=0->∃s,it=Ji s) (a:Lf):Mv now own S (J6q T now k it e a).1:=by
 unfold J6q;split
 ·rename_i h0
  obtain⟨s,rfl⟩:=hit h0
  exact h.putT ho s true
 ·exact h
theorem Mv.add (h:Mv now own S T) {k:ByteArray} (ho:own k) (n:Int):Mv now own S (Jcy T now k n).1:=(h.get k).keep ho (J9l _ n) _
theorem Mv.addText (h:Mv now own S T) {k:ByteArray} (ho:own k) (s:ByteArray) (less:Bool):Mv now own S (J2t T now k s less).1:=by
 unfold J2t;split
 ·exact h
 ·split
  ·split
   ·exact h.add ho _
   ·exact h
  ·exact h.add ho _
theorem Mv.swap (h:Mv now own S T) {k:ByteArray} (ho:own k) (s:ByteArray) (drop:Bool):Mv now own S (Jcm T now k s drop).1:=by
 unfold Jcm;split
 ·exact h.get k
 ·split
  ·exact((h.get k).due k).gone ho 2
  ·exact(h.get k).fresh ho s _
theorem Mv.nx (h:Mv now own S T) {k:ByteArray} (ho:own k) (s:ByteArray):Mv now own S (tNx T now k s).1:=by
 unfold tNx;split
 ·exact h.due k
 ·exact(h.due k).fresh ho s _
theorem Mv.many:∀(ws:List ByteArray) {T:St} (_:Mv now own S T),Mv now own S (J4e T now ws).1
 |[],_,h=>h
 |k::ks,T,h=>Mv.many ks (h.get k)
theorem Mv.pairs:∀(ws:List ByteArray) {T:St} (_:Mv now own S T) (_:∀k∈J9d ws,own k),Mv now own S (J5k T now ws).1
 |k::s::l,T,h,ho=>by
  unfold J5k;split
  ·exact Mv.pairs l (h.putT (ho k (by simp[J9d])) s false) fun x hx=>ho x (by simp[J9d,hx])
  ·exact h.putT (ho k (by simp[J9d])) s false
 |[],_,h,_=>by unfold J5k;exact h
 |[_],_,h,_=>by unfold J5k;exact h
theorem Mv.set (h:Mv now own S T) {k:ByteArray} (ho:own k) (s:ByteArray) (l:List ByteArray):Mv now own S (Jaq T now k s l).1:=by
 unfold Jaq;split
 ·unfold Jpa
  split
  ·exact h.due k
  ·split
   ·exact h.due k
   ·split
    ·simp only
     split
     ·exact(((h.due k).putT ho s _).due k).expire ho _
     ·exact(h.due k).putT ho s _
    ·exact(h.due k).putT ho s _
 ·exact h
theorem Mv.count (f:St->ByteArray->St×Bool) (hf:∀{T:St} (_:Mv now own S T) (k:ByteArray),own k->Mv now own S (f T k).1):∀(ws:List ByteArray) {T:St} (_:Mv now own S T) (n:Int) (_:∀k∈ws,own k),Mv now own S (J0s f T n ws).1
 |[],_,h,_,_=>h
 |k::l,T,h,n,ho=>Mv.count f hf l (hf h k (ho k (by simp))) _ fun x hx=>ho x (by simp[hx])
theorem Mv.exp (h:Mv now own S T) {k:ByteArray} (ho:own k) (m:ByteArray) (u:Int):Mv now own S (J0f T now k m u).1:=by
 unfold J0f;split
 ·exact h
 ·split
  ·split
   ·exact(h.due k).expire ho _
   ·exact h
  ·exact(h.due k).expire ho _
theorem Mv.fkeep (h:Mv now own S T) {k:ByteArray} (ho:own k) {it:Itm} (hr:J0e it) (n:Int):Mv now own S (J7f T now k it n).1:=h.putG ho it (fun _=>hr) true
theorem Jfy:∀(ws:List ByteArray) {fs:Fs} (_:J4h fs) (n:Int),(J56 fs n ws).2.2=0->J4h (J56 fs n ws).1/\(0<fs.length\/2<=ws.length->0<(J56 fs n ws).1.length)
 |k::s::l,fs,hf,n,h=>by
  unfold J56 at h⊢;split at h
  ·rename_i hp
   rw[if_pos hp];have hq:=hf.fput hp;have ih:=Jfy l hq.1 _ h;exact⟨ih.1,fun _=>ih.2 (.inl hq.2)⟩
  ·simp at h
 |[],_,hf,_,_=>⟨hf,fun h=>h.elim id (by simp)⟩
 |[_],_,hf,_,_=>⟨hf,fun h=>h.elim id (by simp)⟩
theorem Jfw:∀(ws:List ByteArray) {fs:Fs} (_:J4h fs) (n:Int),J4h (J7s fs n ws).1
 |[],_,hf,_=>hf
 |x::l,fs,hf,n=>by
  unfold J7s;refine Jfw l ?_ _;split
  ·exact hf.fdel x
  ·exact hf
theorem Mv.fset (h:Mv now own S T) {k:ByteArray} (ho:own k) {fs:Fs} (hf:J4h fs) {ws:List ByteArray} (hl:2<=ws.length):Mv now own S (J8r T now k fs ws).1:=by
 unfold J8r Jad;split
 ·rename_i h0
  have q:=Jfy ws hf 0 h0;exact h.fkeep ho (q.1.right (q.2 (.inr hl))) _
 ·exact h
theorem Mv.fdel (h:Mv now own S T) {k:ByteArray} (ho:own k) {fs:Fs} (hf:J4h fs) (ws:List ByteArray):Mv now own S (J8q T now k fs ws).1:=by
 unfold J8q J5r;split
 ·exact h
 ·split
  ·exact(h.due k).gone ho 2
  ·exact h.fkeep ho ((Jfw ws hf 0).right (by omega)) _
theorem Mv.fadd (h:Mv now own S T) {k:ByteArray} (ho:own k) {fs:Fs} (hf:J4h fs) (m m2:ByteArray):Mv now own S (J5q T now k fs m m2).1:=by
 unfold J5q;split
 ·exact h
 ·unfold Jd5
  split
  ·split
   ·rename_i hp
    have hq:=hf.fput hp;exact h.fkeep ho (hq.1.right hq.2) _
   ·exact h
  ·exact h
theorem Mv.real {k:ByteArray} (ho:own k) {T:St×Lf} (h:Ja5 S now k T):Mv now own S T.1:=by
 rcases h with rfl|⟨nx,tx,code,hc,rfl⟩
 ·exact .refl
 ·refine(Mv.refl.get k).keep ho (fun h0=>?_) _
  rcases hc with⟨_,h2⟩|⟨h2,_⟩
  ·exact⟨tx,h2⟩
  ·exact absurd h0 h2
end
theorem Jyw {S:St} {now:Int} {sp:Sp} {ws:List ByteArray} {o:Res} (h:Ran S now sp ws o) (hf:Fit S) (hl:sp.least<=(ws.length:Int)+1):Mv now (·∈J0m sp ws) S o.st:=by
 have R:Mv now (·∈J0m sp ws) S S:=.refl;cases h with
 |get h k=>exact R.get k
 |set h k m ws=>exact R.set (by simp[J0m,h,Jp6]) m ws
 |setnx h k m=>exact R.nx (by simp[J0m,h,Jp7]) m
 |getset h k m=>exact R.swap (by simp[J0m,h,Jl4]) m false
 |getdel h k=>exact R.swap (by simp[J0m,h,Jl3]) _ true
 |mget h k ws=>exact R.many _
 |mset h k ws=>exact R.pairs _ (fun x hx=>by simpa[J0m,h,Jv4] using hx)
 |incr h k=>exact R.add (by simp[J0m,h,Jv3]) 1
 |decr h k=>exact R.add (by simp[J0m,h,Jv2]) (-1)
 |incrby h k m=>exact R.addText (by simp[J0m,h,Jl5]) m false
 |decrby h k m=>exact R.addText (by simp[J0m,h,Jl1]) m true
 |append_ h k m=>exact(R.get k).keep (by simp[J0m,h,Jl0]) (Jca _ m) _
 |strlen h k=>exact R.get k
 |real h k m T hT=>exact Mv.real (by simp[J0m,h,Jv5]) hT
 |htext h k ws ht=>exact R.get k
 |hset h k ws ht=>exact(R.get k).fset (by simp[J0m,h,Jey]) (Jd6 hf k now).1 (by subst h;simp[Jey] at hl;omega)
 |hget h k m ht=>exact R.get k
 |hdel h k ws ht=>exact(R.get k).fdel (by simp[J0m,h,Ji9]) (Jd6 hf k now).1 ws
 |hgetall h k ht=>exact R.get k
 |hlen h k ht=>exact R.get k
 |hexists h k m ht=>exact R.get k
 |hmget h k ws ht=>exact R.get k
 |hincrby h k m m2 ht=>exact(R.get k).fadd (by simp[J0m,h,J95]) (Jd6 hf k now).1 m m2
 |del h ws=>exact Mv.count _ (fun hm k ho=>(hm.due k).gone ho 2) ws R 0 (fun x hx=>by simpa[J0m,h,Jxs] using hx)
 |unlink h ws=>exact Mv.count _ (fun hm k ho=>(hm.due k).gone ho 2) ws R 0 (fun x hx=>by simpa[J0m,h,Jl6] using hx)
 |exists_ h ws=>exact Mv.count _ (fun hm k _=>hm.due k) ws R 0 (fun x hx=>by simpa[J0m,h,Jl2] using hx)
 |expire h k m=>exact R.exp (by simp[J0m,h,Jap]) m 1000
 |pexpire h k m=>exact R.exp (by simp[J0m,h,Jgk]) m 1
 |persist h k=>exact(R.due k).persist (by simp[J0m,h,Jgj])
 |ttl h k=>exact R.due k
 |pttl h k=>exact R.due k
 |type h k=>exact R.due k
 |flushall h=>exact R.flush
 |dbsize h=>exact R
theorem Jys {S:St} {now:Int} {ws:List ByteArray} {o:Res} (h:Out S now ws o) (hf:Fit S):Mv now (·∈J0m (Ku ws).1 (ws.drop 1)) S o.st:=by
 unfold Out at h;split at h
 ·rename_i h0
  split at h
  ·obtain⟨c,rest,rfl,h⟩:=h
   have hc:=Jbx (c:=c) (ws:=rest) (sp:=(Ku (c::rest)).1) (Prod.ext rfl h0);exact Jyw h hf hc.2.1
  ·rw[h];exact .refl
 ·rw[h];exact .refl
end Go.Proofs.YtncbcaabanoeoaaGreatDoor
namespace Go.Proofs.YtncbcaabanoeoaaGreatDoor
open Go Go.RowKit
def J5o (W:World) (v:Value) (ws:List ByteArray):Prop:=
 ∃a cap,v= .slice a ws.length cap/\ws.length<=cap/\cap<=Jb0/\∀i s,ws[i]? =some s->s.size<=9223372036854775807/\∃g off,a=some ⟨g,off,none⟩/\g<W.heap.size/\W.cell? ⟨g,off+i,none⟩=some (.string s)
structure Jlt where
 v:Value
 ws:List ByteArray
 wait:Nat
def Jgu (W:World) (v:Value) (acts:List Jlt):Prop:=
 ∃a cap,v= .slice a acts.length cap/\acts.length<=cap/\cap<=9223372036854775807/\∀i x,acts[i]? =some x->J5o W x.v x.ws/\x.wait<=65535/\
  ∃g off,a=some ⟨g,off,none⟩/\g<W.heap.size/\W.cell? ⟨g,off+i*2,none⟩=some x.v/\W.cell? ⟨g,off+i*2+1,none⟩=some (.int .u16 x.wait)
theorem J3.in_ {w0 w':World} {x:Hp} (h:J3 w0 [] w' x) {g i:Nat} (hg:g<w0.heap.size) {v:Value} (hc:w0.cell? ⟨g,i,none⟩=some v):w'.cell? ⟨g,i,none⟩=some v:=by
 have e:=h.same g hg (by simp[keys])
 unfold World.cell? at hc⊢;rw[e];exact hc
def Few (many:Nat) (acts:List Jlt):Prop:=acts.length<=many/\∀a∈acts,a.ws.length<=70/\∀s∈a.ws,s.size<=4500
def Jfk (w0:World) (r:Hp) (many:Nat) (acts:List Jlt) (e:Ending) (w':World):Prop:=∃b:Bool,e= .returned (.bool b)/\(b=false->Few many acts)/\J3 w0 [] w' r
theorem Jlg {α:Type} {P:α->Prop} {l:List α} {k:Nat} {x:α} (hx:l[k]? =some x) (h:∀y∈l.take k,P y) (hp:P x):∀y∈l.take (k+1),P y:=by
 intro y hy
 rw[List.take_add_one,hx] at hy;rcases List.mem_append.1 hy with hy|hy
 ·exact h y hy
 ·simp only[Option.toList_some,List.mem_cons,List.not_mem_nil,or_false] at hy
  subst hy;exact hp
theorem Jg1 {w0 w:World} {r:Hp} (hS:J3 w0 [] w r) {v:Value} {acts:List Jlt} (h:Jgu w0 v acts) (many:Nat) (hmany:many<=1000):
 Calls Tryz.prog 6 #[v,.int .i64 many] w (Jfk w0 r many acts):=by
 obtain⟨a,cap,rfl,hc1,hc2,hel⟩:=h
 obtain⟨n,hn⟩:∃n,n=acts.length:=⟨_,rfl⟩
 rw[<-hn] at hc1⊢;replace hn:=hid hn;replace hel:=hid hel;have S0:=hid hS;clear hS;go_enter Tryz.func6,Tryz.ntmps6;by_cases h30:many<n
 ·have h30b:(many:Int)<(n:Int):=by omega
  go_wp2_with fail;go_ret;exact⟨true,rfl,by simp,S0.out⟩
 have h30b:¬(many:Int)<(n:Int):=by omega
 have hn2:n<=9223372036854775807:=by omega
 go_wp2_with fail;go_loopw [6,8,15,26] (fun s6 s8 s15 s26 wr=>∃k:Nat,s15= .int .i64 k/\k<=n/\Hid (∀x∈acts.take k,x.ws.length<=70/\∀s∈x.ws,s.size<=4500)/\Hid (J3 w0 [] wr r)) (fun s6 s8 s15 s26 wr=>(n - intOf s15).toNat)
 case atStart=>exact⟨0,rfl,Nat.zero_le _,hid (by simp),S0⟩
 case round=>
  obtain⟨k,rfl,hk,hsz,S1⟩:=hrel
  clear S0;by_cases hlt:k<n
  ·obtain⟨x,hx⟩:∃x,acts[k]? =some x:=⟨acts[k]'(by rw[<-hn.out];exact hlt),List.getElem?_eq_getElem _⟩
   obtain⟨hw,hwait,g,off,rfl,hg,c0,c1⟩:=hel.out k x hx
   replace c0:=S1.out.in_ hg c0;replace c1:=S1.out.in_ hg c1;obtain⟨xv,ws,wait⟩:=x
   obtain⟨wa,wc,hxv,hw1,hw2,hwel⟩:=hw
   unfold Jb0 at hw2;simp only at hxv hw1 hw2 hwel c0 c1 hwait
   obtain⟨m,hm⟩:∃m,m=ws.length:=⟨_,rfl⟩
   rw[<-hm] at hxv hw1;subst hxv;replace hm:=hid hm;replace hwel:=hid hwel;replace hx:=hid hx;have hlt3:(k:Int)<(n:Int):=by omega
   have S9:=hid ((S1.out.alloc (.cells #[.slice wa m wc,.int .u16 wait] 28)).less (List.sublist_cons_self _ _));by_cases e1:70<m
   ·have e1b:(70:Int)<(m:Int):=by omega
    clear S1;go_wp2_with fail;go_ret;exact⟨true,rfl,by simp,S9.out⟩
   have e1b:¬(70:Int)<(m:Int):=by omega
   clear S1;go_wp2_with fail;generalize hwl:wr.alloc _=w1 at S9⊢;clear hwl c0 c1;have hm2:m<=9223372036854775807:=by omega
   go_loopw [8,26] (fun s8 s26 wq=>∃j:Nat,s26= .int .i64 j/\j<=m/\Hid (∀s∈ws.take j,s.size<=4500)/\Hid (J3 w0 [] wq r)) (fun s8 s26 wq=>(m - intOf s26).toNat)
   case atStart=>exact⟨0,rfl,Nat.zero_le _,hid (by simp),S9⟩
   case round=>
    obtain⟨j,rfl,hj,hsj,S2⟩:=hrel
    clear S9;by_cases hjt:j<m
    ·obtain⟨s,hs⟩:∃s,ws[j]? =some s:=⟨ws[j]'(by rw[<-hm.out];exact hjt),List.getElem?_eq_getElem _⟩
     obtain⟨hss,g2,off2,rfl,hg2,c2⟩:=hwel.out j s hs
     replace c2:=S2.out.in_ hg2 c2;replace hs:=hid hs;have hjt3:(j:Int)<(m:Int):=by omega
     by_cases e2:4500<s.size
     ·have e2b:(4500:Int)<(s.size:Int):=by omega
      go_wp2_with fail;go_ret;exact⟨true,rfl,by simp,S2.out⟩
     have e2b:¬(4500:Int)<(s.size:Int):=by omega
     go_wp2_with fail;go_roundw
     case rel=>exact⟨j+1,by go_num,hjt,hid (Jlg hs.out hsj.out (by omega)),S2⟩
     case measure=>simp[intOf];omega
    ·have hge2:¬(j:Int)<(m:Int):=by omega
     have hall:∀s∈ws,s.size<=4500:=by
      have:=hsj.out
      rwa[List.take_of_length_le (by rw[<-hm.out];omega)] at this
     replace hall:=hid hall;go_wp2_with fail;go_roundw
     case rel=>exact⟨k+1,by go_num,hlt,hid (Jlg hx.out hsz.out ⟨by simp only;rw[<-hm.out];omega,hall.out⟩),S2⟩
     case measure=>simp[intOf];omega
  ·have hge:¬(k:Int)<(n:Int):=by omega
   go_wp2_with fail;go_ret;refine⟨false,rfl,fun _=>⟨by rw[<-hn.out];omega,?_⟩,S1.out⟩
   have:=hsz.out
   rwa[List.take_of_length_le (by rw[<-hn.out];omega)] at this
end Go.Proofs.YtncbcaabanoeoaaGreatDoor
namespace Go.Proofs.YtncbcaabanoeoaaGreatDoor
open Go Go.RowKit Go.ChangeShapes Go.WideShapes Go.ChangeAt
section
variable {H:Type} {enc:TypeId×Value->H} {w:World} {base:Nat} {spare:Nat->Bool} {held:Bool}
theorem Jpo {b:Addr} {cs:List Value} (h:w.cells? base b 1=some cs):∃v,cs=[v]/\w.cell? b=some v:=by
 unfold World.cells? at h;split at h
 ·simp only[show List.range 1=[0] from rfl,List.mapM_cons,List.mapM_nil,Option.bind_eq_bind,Option.bind_eq_some_iff,Option.pure_def,Option.some.injEq] at h
  obtain⟨c0,e0,q,rfl,rfl⟩:=h
  exact⟨c0,rfl,e0⟩
 ·cases h
theorem Jpp {b:Addr} {cs:List Value} (h:w.cells? base b 2=some cs):∃u v,cs=[u,v]/\w.cell? b=some u/\w.cell? (b.add 1)=some v:=by
 unfold World.cells? at h;split at h
 ·simp only[show List.range 2=[0,1] from rfl,List.mapM_cons,List.mapM_nil,Option.bind_eq_bind,Option.bind_eq_some_iff,Option.pure_def,Option.some.injEq] at h
  obtain⟨c0,e0,q,⟨c1,e1,q2,rfl,rfl⟩,rfl⟩:=h
  exact⟨c0,c1,rfl,e0,e1⟩
 ·cases h
theorem Jdr {g o:Nat} {q} {v:Value} (h:w.cell? ⟨g,o,q⟩=some v):g<w.heap.size:=by
 rcases Nat.lt_or_ge g w.heap.size with h2|h2
 ·exact h2
 ·have e:w.heap[g]? =none:=Array.getElem?_eq_none h2
  simp[World.cell?,e] at h
theorem Jei (hcap:maxLen<=Jb0) {n:Nat} {cs:List Value} {y:DataW H×List MemPlace} (h:DataW.trod enc Tryz.prog w base spare held n 23 cs=some y):∃v ws,cs=[v]/\J5o w v ws:=by
 rcases DataW.trod_slice Tryz.underlying23 h with⟨rfl,_⟩|⟨a,len,cap,elems,rest,n,_,rfl,_,_,hl,hm,hlen,hel,_,_⟩
 ·exact⟨_,[],rfl,none,0,rfl,Nat.le_refl _,Nat.zero_le _,by simp⟩
 ·have hc1:Tryz.prog.cellsOf 9=1:=by kernel_rfl
  rw[hc1] at hel
  have hs:∀i,∃s:ByteArray,i<len->s.size<=maxLen/\w.cell? (a.add i)=some (.string s):=fun i=>by
   by_cases hi:i<len
   ·have h1:=hel i hi
    rw[Nat.mul_one,List.getElem?_eq_getElem (by omega),Option.bind_eq_some_iff] at h1
    obtain⟨cs,h2,h3⟩:=h1
    obtain⟨v,rfl,h4⟩:=Jpo h2
    obtain⟨s,h5,_,h6⟩:=DataW.trod_string Tryz.underlying9 h3
    simp only[List.cons.injEq,and_true] at h5;subst h5;exact⟨s,fun _=>⟨h6,h4⟩⟩
   ·exact⟨ByteArray.empty,fun h=>absurd h hi⟩
  refine⟨_,(List.range len).map fun i=>(hs i).choose,rfl,some a,cap,by simp,by simpa using hl,by omega,fun i s hi=>?_⟩
  rw[List.getElem?_map] at hi
  have hil:i<len:=by
   rcases Nat.lt_or_ge i len with h|h
   ·exact h
   ·rw[List.getElem?_eq_none (by simpa using h)] at hi;cases hi
  rw[List.getElem?_eq_getElem (by simpa using hil),Option.map_some,Option.some.injEq,List.getElem_range] at hi
  obtain⟨h1,h2⟩:=(hs i).choose_spec hil
  rw[hi] at h1 h2;have h00:=((hs 0).choose_spec (by omega)).2
  obtain⟨g,off,q⟩:=a
  have h01:w.cell? ⟨g,off,q⟩=some (.string (hs 0).choose):=h00;obtain rfl:q=none:=World.cell?_spot h01;rw[J0i] at h2;exact⟨by unfold maxLen at h1;omega,g,off,rfl,Jdr h2,h2⟩
theorem Ju4 (hcap:maxLen<=Jb0) {b:Addr} {n:Nat} {y:DataW H×List MemPlace} (h:(w.cells? base b 2).bind (DataW.trod enc Tryz.prog w base spare held n 28)=some y):
 ∃x:Jlt,J5o w x.v x.ws/\x.wait<=65535/\w.cell? b=some x.v/\w.cell? (b.add 1)=some (.int .u16 x.wait):=by
 rw[Option.bind_eq_some_iff] at h;obtain⟨cs,hcs,hy⟩:=h
 obtain⟨xs,m,_,_,_,hxl,hx⟩:=DataW.trod_struct Tryz.underlying28 hy
 obtain⟨u,v,rfl,e0,e1⟩:=Jpp hcs
 have h0:DataW.trod enc Tryz.prog w base spare held m 23 (([u,v].drop 0).take (Tryz.prog.cellsOf 23))=xs[0]? :=hx 0 _ rfl;have h1:DataW.trod enc Tryz.prog w base spare held m 26 (([u,v].drop 1).take (Tryz.prog.cellsOf 26))=xs[1]? :=hx 1 _ rfl;have k0:Tryz.prog.cellsOf 23=1:=by kernel_rfl
 have k1:Tryz.prog.cellsOf 26=1:=by kernel_rfl
 rw[k0] at h0;rw[k1] at h1;have hs:xs.length=2:=hxl;rw[List.getElem?_eq_getElem (by omega)] at h0 h1
 obtain⟨v0,ws,hv0,hw⟩:=Jei (cs:=[u]) hcap h0
 obtain⟨nn,hv1,_,hwf⟩:=DataW.trod_int (cs:=[v]) Tryz.underlying26 h1
 simp only[List.cons.injEq,and_true] at hv0 hv1;subst hv0;subst hv1
 have hb:0<=nn/\nn<=65535:=by
  simp only[Lit.wf,Bool.and_eq_true,decide_eq_true_eq] at hwf;have a1:IntKind.u16.min=0:=by decide
  have a2:IntKind.u16.max=65535:=by decide
  rw[a1,a2] at hwf;exact hwf
 refine⟨⟨u,ws,nn.toNat⟩,hw,by simp only;omega,e0,?_⟩
 show w.cell? (b.add 1)=some (.int .u16 ((nn.toNat:Nat):Int))
 rw[Int.toNat_of_nonneg hb.1];exact e1
theorem Jrc (hcap:maxLen<=Jb0) {n:Nat} {cs:List Value} {y:DataW H×List MemPlace} (h:DataW.trod enc Tryz.prog w base spare held n 22 cs=some y):∃v acts,cs=[v]/\Jgu w v acts:=by
 rcases DataW.trod_slice Tryz.underlying22 h with⟨rfl,_⟩|⟨a,len,cap,elems,rest,n,_,rfl,_,_,hl,hm,hlen,hel,_,_⟩
 ·exact⟨_,[],rfl,none,0,rfl,Nat.le_refl _,Nat.zero_le _,by simp⟩
 ·have hc2:Tryz.prog.cellsOf 28=2:=by kernel_rfl
  rw[hc2] at hel
  have hs:∀i,∃x:Jlt,i<len->J5o w x.v x.ws/\x.wait<=65535/\w.cell? (a.add (i*2))=some x.v/\w.cell? ((a.add (i*2)).add 1)=some (.int .u16 x.wait):=fun i=>by
   by_cases hi:i<len
   ·have h1:=hel i hi
    rw[List.getElem?_eq_getElem (by omega)] at h1
    obtain⟨x,hx⟩:=Ju4 hcap h1
    exact⟨x,fun _=>hx⟩
   ·exact⟨⟨.bool false,[],0⟩,fun h=>absurd h hi⟩
  refine⟨_,(List.range len).map fun i=>(hs i).choose,rfl,some a,cap,by simp,by simpa using hl,by unfold maxLen at hm;omega,fun i x hi=>?_⟩
  rw[List.getElem?_map] at hi
  have hil:i<len:=by
   rcases Nat.lt_or_ge i len with h|h
   ·exact h
   ·rw[List.getElem?_eq_none (by simpa using h)] at hi;cases hi
  rw[List.getElem?_eq_getElem (by simpa using hil),Option.map_some,Option.some.injEq,List.getElem_range] at hi
  obtain⟨h1,h2,h3,h4⟩:=(hs i).choose_spec hil
  rw[hi] at h1 h2 h3 h4;have h00:=((hs 0).choose_spec (by omega)).2.2.1
  obtain⟨va,cc,hv,_⟩:=((hs 0).choose_spec (by omega)).1
  rw[hv] at h00;generalize (hs 0).choose.ws.length=nn at h00;obtain⟨g,off,q⟩:=a
  have e:(⟨g,off,q⟩:Addr).add (0*2)=⟨g,off,q⟩:=rfl;have h01:w.cell? ⟨g,off,q⟩=some (.slice va nn cc):=h00;obtain rfl:q=none:=World.cell?_spot h01;rw[J0i] at h3;rw[J0i,J0i] at h4;exact⟨h1,h2,g,off,rfl,Jdr h3,h3,h4⟩
end
end Go.Proofs.YtncbcaabanoeoaaGreatDoor
namespace Go.Proofs.YtncbcaabanoeoaaGreatDoor
open Go Go.RowKit
variable {w0 w:World}{r l:Hp}{sb:Nat}{S:St}
def J83 (c:UInt8):UInt8:=if 65<=c.toNat/\c.toNat<=90 then UInt8.ofNat (c.toNat+32) else c
def Jeq (s:ByteArray):ByteArray:=⟨(s.data.toList.map J83).toArray⟩
theorem Jz.stp {l:List UInt8} {s:Value} (h:Jz w0 r l s w):J3 w0 [] w r:=by
 obtain⟨a,c,sl,rfl,hb,hS⟩:=h
 exact hS.less (List.sublist_append_right _ _)
theorem Jz.txt {l:List UInt8} {s:Value} (h:Jz w0 r l s w) (hl:l≠[]):∃g c,s= .slice (some ⟨g,0,none⟩) l.length c/\∀j (hj:j<l.length),w.cell? ((⟨g,0,none⟩:Addr).add j)=some (.int .u8 ((l[j]'hj).toNat:Int)):=by
 obtain⟨a,c,sl,rfl,hb,hS⟩:=h
 obtain⟨g,c',hv,hsl⟩:∃g c',Value.slice a l.length c= .slice (some ⟨g,0,none⟩) l.length c'/\∃rest,sl=[(g,.cells (l.map bv++rest).toArray 5 (0,0))]:=by
  unfold Bsl at hb;generalize hn:l.length=n at hb⊢;generalize l.map bv=xs at hb⊢;generalize hv:Value.slice a n c=v at hb⊢;cases hb with
  |nil=>exact absurd (List.length_eq_zero_iff.1 hn) hl
  |laid g n cap xs rest h1 h2 h3 h4=>exact⟨g,cap,rfl,rest,rfl⟩
 obtain⟨rest,rfl⟩:=hsl
 refine⟨g,c',hv,fun j hj=>?_⟩
 rw[J0i,Nat.zero_add,J2 hS.own.head,List.getElem?_toArray,List.getElem?_append_left (by simpa using hj),List.getElem?_map,List.getElem?_eq_getElem hj]
 rfl
theorem Jer (hS:J3 w0 [] w r) (s:ByteArray) (hs:s.size<=100000):
 Calls Tryz.prog 28 #[.string s] w (Kr w0 r (.string (Jeq s))):=by
 obtain⟨b,hb⟩:∃b,b=w.heap.size:=⟨_,rfl⟩
 have hD:Jz w0 r [] (.slice (some ⟨b,0,none⟩) 0 0) (w.alloc (.cells #[] 5)):=by
  subst hb;exact⟨_,0,_,rfl,SliceHp.laid w.heap.size 0 0 [] [] rfl rfl (by decide) (by unfold maxLen;decide),hS.alloc (.cells #[] 5)⟩
 replace hD:=hid hD;clear hS;go_enter Tryz.func28,Tryz.ntmps28;go_wp2_with fail;rw[<-hb];replace hb:=hid hb;go_loopw [3,4,5] (fun s3 s4 s5 wr=>∃(k:Nat) (v:Value),s4= .int .i64 k/\s3=v/\k<=s.size/\(k=0->v= .slice (some ⟨b,0,none⟩) 0 0)/\Hid (Jz w0 r ((s.data.toList.take k).map J83) v wr)) (fun s3 s4 s5 wr=>(s.size - intOf s4).toNat)
 case atStart=>exact⟨0,_,rfl,rfl,Nat.zero_le _,fun _=>rfl,hD⟩
 case round=>
  obtain⟨k,v,rfl,hv,hk,hz,h1⟩:=hrel
  replace hv:=hv.symm;subst hv;replace hz:=hid hz;clear hD;by_cases hlt:k<s.size
  ·have hlt2:(k:Int)<s.size:=by omega
   have hx:s.data.toList[k]? =some s[k]:=by rw[List.getElem?_eq_getElem (by simpa using hlt)];rfl
   have hrun:∀y:Int,((J83 s[k]).toNat:Int)=y->∃v' w',(Builtin.append_ #[129,129] 129 #[v,.slice (some ⟨wr.heap.size,0,none⟩) 1 1]).run Tryz.prog (wr.alloc (.cells #[.int .u8 y] 5))= .ok v' w'/\Jz w0 r ((s.data.toList.take (k+1)).map J83) v' w':=fun y hy=>by
    obtain⟨v',w',h2,h3⟩:=h1.out.push [J83 s[k]] #[.int .u8 y] (by rw[<-hy];rfl) 1 rfl (by decide) (by simp only[List.length_map,List.length_take];omega) 129
    refine⟨v',w',h2,?_⟩
    rw[List.take_add_one,hx];simpa using h3
   by_cases g1:65<=s[k].toNat
   ·by_cases g2:s[k].toNat<=90
    ·obtain⟨v',w',h2,h3⟩:=hrun ((s[k].toNat:Int)+32) (by unfold J83;rw[if_pos ⟨g1,g2⟩,UInt8.toNat_ofNat'];omega)
     replace h2:=hid h2;replace h3:=hid h3;clear hrun hx;go_wp2_with (at_builtin;refine J8 rfl _ _ _ _ rfl _ _ rfl rfl h2.out ?_);go_roundw
     case rel=>exact⟨k+1,_,by go_num,rfl,hlt,fun h=>by omega,h3⟩
     case measure=>simp[intOf];omega
    ·obtain⟨v',w',h2,h3⟩:=hrun (s[k].toNat:Int) (by unfold J83;rw[if_neg (by omega)])
     replace h2:=hid h2;replace h3:=hid h3;clear hrun hx;go_wp2_with (at_builtin;refine J8 rfl _ _ _ _ rfl _ _ rfl rfl h2.out ?_);go_roundw
     case rel=>exact⟨k+1,_,by go_num,rfl,hlt,fun h=>by omega,h3⟩
     case measure=>simp[intOf];omega
   ·obtain⟨v',w',h2,h3⟩:=hrun (s[k].toNat:Int) (by unfold J83;rw[if_neg (by omega)])
    replace h2:=hid h2;replace h3:=hid h3;clear hrun hx;go_wp2_with (at_builtin;refine J8 rfl _ _ _ _ rfl _ _ rfl rfl h2.out ?_);go_roundw
    case rel=>exact⟨k+1,_,by go_num,rfl,hlt,fun h=>by omega,h3⟩
    case measure=>simp[intOf];omega
  ·obtain rfl:k=s.size:=by omega
   have hl:(s.data.toList.take s.size)=s.data.toList:=List.take_of_length_le (by simp)
   have hst:=hid (h1.out.stp);have hn:((s.data.toList.take s.size).map J83).length=s.size:=by rw[hl];simp
   obtain⟨g,c,rfl,hcell⟩:∃g c,v=Value.slice (some ⟨g,0,none⟩) s.size c/\∀j (hj:j<((s.data.toList.take s.size).map J83).length),wr.cell? ((⟨g,0,none⟩:Addr).add j)=some (.int .u8 ((((s.data.toList.take s.size).map J83)[j]'hj).toNat:Int)):=by
    by_cases h0:s.size=0
    ·exact⟨b,0,by rw[hz.out h0,h0],fun j hj=>by rw[hn] at hj;omega⟩
    ·obtain⟨g,c,h2,h3⟩:=h1.out.txt (by intro e;rw[e] at hn;simp at hn;omega)
     rw[hn] at h2;exact⟨g,c,h2,h3⟩
   have hback:=run_convert_bytes_back (P:=Tryz.prog) wr 129 9 5 ⟨g,0,none⟩ c ((s.data.toList.take s.size).map J83) Tryz.underlying129 Tryz.underlying5 Tryz.underlying9 hcell;rw[hn] at hback;have hp:(⟨((s.data.toList.take s.size).map J83).toArray⟩:ByteArray)=Jeq s:=by rw[hl];rfl
   rw[hp] at hback;clear hcell h1 hl hn hp;go_wp2_with fail;go_ret;exact⟨rfl,hst.out⟩
theorem J9x (hS:J3 w0 [] w r) (s:ByteArray) (hs:s.size<=100000):
 Calls Tryz.prog 65 #[.string s] w (Kr w0 r (.string (J16 s))):=by
 obtain⟨b,hb⟩:∃b,b=w.heap.size:=⟨_,rfl⟩
 have hD:Jz w0 r [] (.slice (some ⟨b,0,none⟩) 0 0) (w.alloc (.cells #[] 5)):=by
  subst hb;exact⟨_,0,_,rfl,SliceHp.laid w.heap.size 0 0 [] [] rfl rfl (by decide) (by unfold maxLen;decide),hS.alloc (.cells #[] 5)⟩
 replace hD:=hid hD;clear hS;go_enter Tryz.func65,Tryz.ntmps65;go_wp2_with fail;rw[<-hb];replace hb:=hid hb;go_loopw [3,4,5] (fun s3 s4 s5 wr=>∃(k:Nat) (v:Value),s4= .int .i64 k/\s3=v/\k<=s.size/\(k=0->v= .slice (some ⟨b,0,none⟩) 0 0)/\Hid (Jz w0 r ((s.data.toList.take k).map upc) v wr)) (fun s3 s4 s5 wr=>(s.size - intOf s4).toNat)
 case atStart=>exact⟨0,_,rfl,rfl,Nat.zero_le _,fun _=>rfl,hD⟩
 case round=>
  obtain⟨k,v,rfl,hv,hk,hz,h1⟩:=hrel
  replace hv:=hv.symm;subst hv;replace hz:=hid hz;clear hD;by_cases hlt:k<s.size
  ·have hlt2:(k:Int)<s.size:=by omega
   have hx:s.data.toList[k]? =some s[k]:=by rw[List.getElem?_eq_getElem (by simpa using hlt)];rfl
   have hrun:∀y:Int,((upc s[k]).toNat:Int)=y->∃v' w',(Builtin.append_ #[129,129] 129 #[v,.slice (some ⟨wr.heap.size,0,none⟩) 1 1]).run Tryz.prog (wr.alloc (.cells #[.int .u8 y] 5))= .ok v' w'/\Jz w0 r ((s.data.toList.take (k+1)).map upc) v' w':=fun y hy=>by
    obtain⟨v',w',h2,h3⟩:=h1.out.push [upc s[k]] #[.int .u8 y] (by rw[<-hy];rfl) 1 rfl (by decide) (by simp only[List.length_map,List.length_take];omega) 129
    refine⟨v',w',h2,?_⟩
    rw[List.take_add_one,hx];simpa using h3
   by_cases g1:97<=s[k].toNat
   ·by_cases g2:s[k].toNat<=122
    ·obtain⟨v',w',h2,h3⟩:=hrun ((s[k].toNat:Int) - 32) (by unfold upc;rw[if_pos ⟨g1,g2⟩,UInt8.toNat_ofNat'];omega)
     replace h2:=hid h2;replace h3:=hid h3;clear hrun hx;go_wp2_with (at_builtin;refine J8 rfl _ _ _ _ rfl _ _ rfl rfl h2.out ?_);go_roundw
     case rel=>exact⟨k+1,_,by go_num,rfl,hlt,fun h=>by omega,h3⟩
     case measure=>simp[intOf];omega
    ·obtain⟨v',w',h2,h3⟩:=hrun (s[k].toNat:Int) (by unfold upc;rw[if_neg (by omega)])
     replace h2:=hid h2;replace h3:=hid h3;clear hrun hx;go_wp2_with (at_builtin;refine J8 rfl _ _ _ _ rfl _ _ rfl rfl h2.out ?_);go_roundw
     case rel=>exact⟨k+1,_,by go_num,rfl,hlt,fun h=>by omega,h3⟩
     case measure=>simp[intOf];omega
   ·obtain⟨v',w',h2,h3⟩:=hrun (s[k].toNat:Int) (by unfold upc;rw[if_neg (by omega)])
    replace h2:=hid h2;replace h3:=hid h3;clear hrun hx;go_wp2_with (at_builtin;refine J8 rfl _ _ _ _ rfl _ _ rfl rfl h2.out ?_);go_roundw
    case rel=>exact⟨k+1,_,by go_num,rfl,hlt,fun h=>by omega,h3⟩
    case measure=>simp[intOf];omega
  ·obtain rfl:k=s.size:=by omega
   have hl:(s.data.toList.take s.size)=s.data.toList:=List.take_of_length_le (by simp)
   have hst:=hid (h1.out.stp);have hn:((s.data.toList.take s.size).map upc).length=s.size:=by rw[hl];simp
   obtain⟨g,c,rfl,hcell⟩:∃g c,v=Value.slice (some ⟨g,0,none⟩) s.size c/\∀j (hj:j<((s.data.toList.take s.size).map upc).length),wr.cell? ((⟨g,0,none⟩:Addr).add j)=some (.int .u8 ((((s.data.toList.take s.size).map upc)[j]'hj).toNat:Int)):=by
    by_cases h0:s.size=0
    ·exact⟨b,0,by rw[hz.out h0,h0],fun j hj=>by rw[hn] at hj;omega⟩
    ·obtain⟨g,c,h2,h3⟩:=h1.out.txt (by intro e;rw[e] at hn;simp at hn;omega)
     rw[hn] at h2;exact⟨g,c,h2,h3⟩
   have hback:=run_convert_bytes_back (P:=Tryz.prog) wr 129 9 5 ⟨g,0,none⟩ c ((s.data.toList.take s.size).map upc) Tryz.underlying129 Tryz.underlying5 Tryz.underlying9 hcell;rw[hn] at hback;have hp:(⟨((s.data.toList.take s.size).map upc).toArray⟩:ByteArray)=J16 s:=by rw[hl];rfl
   rw[hp] at hback;clear hcell h1 hl hn hp;go_wp2_with fail;go_ret;exact⟨rfl,hst.out⟩
theorem Jau.gl (h:Jau w0):J17 w0:=h.1
structure Jaw (w0:World) (w:World) (l r:Hp) (sb:Nat) (S:St) (B:Nat):Prop where
 st:J3 w0 [] w (l++r)
 is:Jh l sb S
 ok:Kx S/\DUp S/\S.ev=[]/\S.bud=B
theorem Jh.fit (h:Jh l sb S):Fit S:=by obtain⟨_,_,_,hf⟩:=h;exact hf
theorem Jwp (hf:Fit S) (hT:Kx S) (he:S.ev=[]):S.load<=1000000000000:=by
 have h1:=Jiy S.L;have h2:=hf.bud;unfold Kx at hT;unfold St.load;rw[he,List.length_nil];omega
theorem J6v.next {w':World} {now:Int} {ws:List ByteArray} {e:Ending} (h:J6v w0 r sb (Out S now ws) e w') (hf:Fit S) (hT:Kx S) (hD:DUp S) (hn:0<=now):
 ∃(o:Res) (a:Option Addr) (c:Nat) (ev:Value) (l' xl el:Hp),e= .returned (.tuple #[J7 o.kd o.tx o.nn (.slice a o.xs.length c),ev])/\Out S now ws o/\J9a (·∈J0m (Ku ws).1 (ws.drop 1)) S o.st/\SliceHp 2 41 ev o.st.ev.length (J1g o.st.ev) el/\J3s (.slice a o.xs.length c) o.xs xl/\Jaw w0 w' l' (xl++(el++r)) sb {o.st with ev:=[]} S.bud:=by
 obtain⟨o,ho,a,c,ev,xl,el,l',he,h1,h2,h3,h4⟩:=h
 have hm:=Jys ho hf;have hk:=hm.ok hf hT;have hd:DUp o.st:=hm.dup hn hD;exact⟨o,a,c,ev,l',xl,el,he,ho,hm.ev,h2,h1,⟨h4,h3,⟨hk.2,hd,rfl,hm.bud⟩⟩⟩
theorem Jaw.gone {x y:Hp} {B:Nat} (h:Jaw w0 w l (x++(y++r)) sb S B):Jaw w0 w l r sb S B:=
 ⟨h.st.pick (l2:=l++r) (m:=x++y) (J5 fun f=>by simp only[SC];omega),h.is,h.ok⟩
theorem J2h.in_ {g off:Nat} {ws:List ByteArray} (hg:g<w0.heap.size) (h:∀i s,ws[i]? =some s->w0.cell? ⟨g,off+i,none⟩=some (.string s)) (hs:∀s∈ws,s.size<=4500) (hf:ws.length<=70):J2h w0 r g off ws:=
 ⟨fun _ _ hS i s hi=>hS.in_ hg (h i s hi),fun s hs2=>by have:=hs s hs2;omega,by omega⟩
theorem Jp3 {B:Nat} (hF:Jau w0) (h:Jaw w0 w l r sb S B) {v:Value} {ws:List ByteArray} (hw:J5o w0 v ws) (hfew:ws.length<=70/\∀s∈ws,s.size<=4500) (now:Int) (hnow:0<=now/\now<=4611686018427387904):
 Calls Tryz.prog 8 #[ptr sb,.int .i64 now,v] w (J6v w0 r sb (Out S now ws)):=by
 obtain⟨a,cap,rfl,h1,h2,h3⟩:=hw
 cases ws with
 |nil=>exact Juu h.st h.is now a cap
 |cons c ws=>
  obtain⟨_,g,off,rfl,hg,_⟩:=h3 0 c rfl
  have hc:∀i s,(c::ws)[i]? =some s->w0.cell? ⟨g,off+i,none⟩=some (.string s):=fun i s hi=>by
   obtain⟨_,g2,off2,he,_,hc⟩:=h3 i s hi
   simp only[Option.some.injEq,Addr.mk.injEq] at he;rw[he.1,he.2.1];exact hc
  exact Juv ⟨h.st,hF.gl,h.is,h.ok.1,Jwp h.is.fit h.ok.1 h.ok.2.2.1,.in_ hg hc hfew.2 hfew.1⟩ hF h.ok.2.1.ok now hnow cap h1 h2
abbrev J3r (v:Value) (ws:List ByteArray) (sl:Hp):Prop:=SliceHp 1 9 v ws.length (ws.map Value.string) sl
theorem Jx9:(Tryz.prog.info? 9).map (fun i=>(i.zero,i.size,i.bytes))=some (some (.string ByteArray.empty),1,16):=by kernel_rfl
theorem J3r.form {v:Value} {ws:List ByteArray} {sl:Hp} (h:J3r v ws sl) (hne:ws≠[]):
 ∃g c rest,v= .slice (some ⟨g,0,none⟩) ws.length c/\sl=[(g,.cells (ws.map Value.string++rest).toArray 9 (0,0))]/\ws.length<=c/\c<=9223372036854775807:=by
 obtain⟨n,hn⟩:∃n,n=ws.length:=⟨_,rfl⟩
 obtain⟨xs,hx⟩:∃xs,xs=ws.map Value.string:=⟨_,rfl⟩
 unfold J3r at h;rw[<-hn,<-hx] at h;cases h with
 |nil=>exact absurd (List.length_eq_zero_iff.1 hn.symm) hne
 |laid g n cap xs rest h1 h2 h3 h4=>
  subst hx;rw[hn];exact⟨g,cap,rest,rfl,rfl,by omega,h4⟩
theorem J3r.one (g:Nat) (s:ByteArray):J3r (.slice (some ⟨g,0,none⟩) 1 1) [s] [(g,J33 [s])]:=
 .laid g 1 1 [.string s] [] rfl rfl (Nat.le_refl _) (by unfold maxLen;omega)
theorem J2h.ws {g:Nat} {ws:List ByteArray} {rest:List Value} {t:TypeId} (hm:(g,.cells (ws.map Value.string++rest).toArray t (0,0))∈r) (hs:∀s∈ws,s.size<=1099511627776) (hf:ws.length<=1099511627776):J2h w0 r g 0 ws where
 at_:=fun w' x hS i s hi=>by
  have hh:w'.heap[g]? =some (.cells (ws.map Value.string++rest).toArray t (0,0)):=hS.own.at_ (g,.cells (ws.map Value.string++rest).toArray t (0,0)) (List.mem_append_right _ hm)
  have hlt:i<(ws.map Value.string).length:=by
   rw[List.length_map];exact(List.getElem?_eq_some_iff.1 hi).1
  rw[Nat.zero_add,J2 hh,List.getElem?_toArray,List.getElem?_append_left hlt,List.getElem?_map,hi];rfl
 small:=hs
 few:=hf
theorem Jx0 {sl:Hp} {va:Option Addr} {k c:Nat} {ws:List ByteArray} {nb:Nat} (hS:J3 w0 [] w (sl++r)) (hsl:J3r (.slice va k c) ws sl) (hk:ws.length=k) (hB:k<=1000000000) (news:List ByteArray) (h0:0<news.length) (h1:news.length<=1000) (hm:(nb,J33 news)∈r):
 ∃va' c' w' sl',(Builtin.append_ #[23,23] 23 #[.slice va k c,.slice (some ⟨nb,0,none⟩) news.length news.length]).run Tryz.prog w= .ok (.slice va' (k+news.length) c') w'/\J3r (.slice va' (k+news.length) c') (ws++news) sl'/\J3 w0 [] w' (sl'++r):=by
 have hh:=hS.own.right.at_ _ hm
 obtain⟨v',w',sl',hrun,hsl',S',_⟩:=J1f (P:=Tryz.prog) (ty:=23) Tryz.underlying23 Tryz.underlying23 Jx9 rfl (by decide) hS hsl
  ⟨nb,0,none⟩ news.length news.length (news.map Value.string) (by simp) (by
   intro j u hu
   rw[J0i,Nat.zero_add,J2 hh,<-hu,List.getElem?_toArray]) (by
   intro u hu
   obtain⟨s,_,rfl⟩:=List.mem_map.1 hu
   rfl) h0 (by rw[hk];omega) (by rw[hk];unfold maxLen;omega)
 obtain⟨g,c',rest,hv,_,_,_⟩:=J3r.form (v:=v') (ws:=ws++news) (sl:=sl') (by
  unfold J3r;rw[List.length_append,List.map_append];exact hsl') (by intro e;rw[List.append_eq_nil_iff] at e;rw[e.2] at h0;simp at h0)
 rw[List.length_append,hk] at hv;subst hv;rw[hk] at hsl';refine⟨_,c',w',sl',hrun,?_,S'⟩
 unfold J3r;rw[List.length_append,List.map_append,hk];exact hsl'
end Go.Proofs.YtncbcaabanoeoaaGreatDoor
