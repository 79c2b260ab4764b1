/-
nearhandref17.Keys: the keys of a command's words: all that stand where keys stand.
-/
import Derived.Test.YtncbcaabanoeoaaGreatDoorQ43
import Derived.Test.YtncbcaabanoeoaaGreatDoorR02
set_option linter.unusedVariables false
set_option linter.unusedSimpArgs false
set_option maxRecDepth 100000
set_option maxHeartbeats 8000000
namespace Go.Proofs.YtncbcaabanoeoaaGreatDoor
open Go Go.RowKit
theorem K12 {w0 w:World} {r:Hp} (hS:J3 w0 [] w r) {v:Value} {ws:List ByteArray} (hw:J5o w0 v ws) (hfew:ws.length<=70/\∀s∈ws,s.size<=4500):
 Calls Tryz.prog 11 #[v] w (J1c w0 r (Ku ws)):=by
 obtain⟨a,cap,rfl,h1,h2,h3⟩:=hw
 cases ws with
 |nil=>exact Jn5 hS a cap
 |cons c ws=>
  obtain⟨_,g,off,rfl,hg,_⟩:=h3 0 c rfl
  have hc:∀i s,(c::ws)[i]? =some s->w0.cell? ⟨g,off+i,none⟩=some (.string s):=fun i s hi=>by
   obtain⟨_,g2,off2,he,_,hc⟩:=h3 i s hi
   simp only[Option.some.injEq,Addr.mk.injEq] at he;rw[he.1,he.2.1];exact hc
  exact Jkm hS (.in_ hg hc hfew.2 hfew.1) (by have:=hfew.2 c (by simp);omega) cap
end Go.Proofs.YtncbcaabanoeoaaGreatDoor
namespace Go.Proofs.YtncbcaabanoeoaaGreatDoor
open Go
variable {S T:St}{now:Int}{ws:List ByteArray}{o:Res}
def K0i (S:St) (now:Int):Prop:=∀p∈S.D,now<p.2
theorem K0i.due (h:K0i S now) (k:ByteArray):S.due k now=S:=by
 unfold St.due;cases hl:Je S.D k with
 |none=>rfl
 |some t=>
  have h1:=h _ (J0v hl);simp only at h1⊢
  rw[if_neg (by omega)]
theorem K0i.look (h:K0i S now) (k:ByteArray):S.look k now=Je S.L k:=by unfold St.look;rw[h.due k]
theorem K0i.get (h:K0i S now) (k:ByteArray):S.get k now=S.touch k:=by unfold St.get;rw[h.due k]
structure Kin (S T:St):Prop where
 L:T.L.Perm S.L
 D:T.D=S.D
 ev:T.ev=S.ev
theorem Kin.refl (S:St):Kin S S:=⟨.refl _,rfl,rfl⟩
theorem Kin.trans {U:St} (h:Kin S T) (k:Kin T U):Kin S U:=⟨k.L.trans h.L,k.D.trans h.D,k.ev.trans h.ev⟩
theorem Kin.quiet (h:Kin S T) (q:K0i S now):K0i T now:=by unfold K0i;rw[h.D];exact q
theorem Kin.nd (h:Kin S T) (n:(S.L.map Prod.fst).Nodup):(T.L.map Prod.fst).Nodup:=(h.L.map Prod.fst).nodup_iff.2 n
theorem Kin.look (h:Kin S T) (n:(S.L.map Prod.fst).Nodup):Je T.L=Je S.L:=funext fun k=>J0u h.L (h.nd n) k
theorem K1l {α:Type} {k:ByteArray} {it:α} {L:AL α} (hn:(L.map Prod.fst).Nodup) (h:Je L k=some it):(K3 L k++[(k,it)]).Perm L:=
 (List.perm_append_singleton _ _).trans (J3i hn h).symm
theorem K1a (n:(S.L.map Prod.fst).Nodup) (k:ByteArray):Kin S (S.touch k):=by
 unfold St.touch;split
 ·rename_i it hl
  exact⟨K1l n hl,rfl,rfl⟩
 ·exact .refl S
theorem K0o (n:(S.L.map Prod.fst).Nodup) (q:K0i S now) (k:ByteArray):Kin S (S.get k now):=by rw[q.get k];exact K1a n k
def K0n (look:ByteArray->Option Itm):List ByteArray->Int
 |[]=>0
 |k::l=>(if(look k).isSome then 1 else 0)+K0n look l
theorem K0q {S:St} {now:Int} (q:K0i S now):∀(ws:List ByteArray) (n:Int),J0s (J20 now) S n ws=(S,n+K0n (Je S.L) ws)
 |[],n=>by simp[J0s,K0n]
 |k::l,n=>by
  rw[J0s];simp only[J20,q.due k,K0q q l,K0n];rw[Int.add_assoc]
def K1n (look:ByteArray->Option Itm) (k:ByteArray):Lf:=match look k with
 |some it=>if it.kind=1 then J11 it.text else J34
 |none=>J34
theorem K0u {now:Int}:∀(ws:List ByteArray) {S:St} (_:(S.L.map Prod.fst).Nodup) (_:K0i S now),Kin S (J4e S now ws).1/\(J4e S now ws).2=ws.map (K1n (Je S.L))
 |[],S,_,_=>⟨.refl S,rfl⟩
 |k::ks,S,n,q=>by
  have h1:=K0o n q k;obtain⟨h2,h3⟩:=K0u (now:=now) ks (h1.nd n) (h1.quiet q)
  rw[J4e];refine⟨h1.trans h2,?_⟩
  rw[h3,h1.look n,List.map_cons,q.look k];rfl
def K18 (look:ByteArray->Option Itm) (ends:ByteArray->Option Int) (now:Int) (k:ByteArray):Int:=match look k with
 |none=> -2
 |some _=>match ends k with
  |none=> -1
  |some t=>t - now
abbrev K0j (a:Lf):Int×ByteArray×Int×List Lf:=(a.kind,a.text,a.n,[])
def K1s (look:ByteArray->Option Itm) (k:ByteArray):Lf:=match look k with
 |none=>Jm 0
 |some it=>if it.kind=2 then Kt 91 else Jm it.text.size
def K0k (look:ByteArray->Option Itm) (len:Nat) (ends:ByteArray->Option Int) (now:Int) (sp:Sp) (ws:List ByteArray):Int×ByteArray×Int×List Lf:=
 if sp.name=Jzy.name then K0j (J3j (look (ws.headD ByteArray.empty)))
 else if sp.name=Jv6.name then K0j (K1s look (ws.headD ByteArray.empty))
 else if sp.name=Jyy.name then(5,ByteArray.empty,0,ws.map (K1n look))
 else if sp.name=Jl2.name then K0j (Jm (K0n look ws))
 else if sp.name=Jzz.name then K0j (Jm (Jrt (K18 look ends now (ws.headD ByteArray.empty))))
 else if sp.name=Jyz.name then K0j (Jm (K18 look ends now (ws.headD ByteArray.empty)))
 else if sp.name=Jz0.name then K0j (J63 ((look (ws.headD ByteArray.empty)).getD Jc).kind)
 else if sp.name=Jv1.name then K0j (Jm len)
 else if((look (ws.headD ByteArray.empty)).getD Jc).kind==1 then(2,Jx 91,0,[])
 else if sp.name=Jno.name then K0j (J2o ((look (ws.headD ByteArray.empty)).getD Jc).fs ((ws.drop 1).headD ByteArray.empty))
 else if sp.name=Jbq.name then(12,ByteArray.empty,0,J7o ((look (ws.headD ByteArray.empty)).getD Jc).fs)
 else if sp.name=Jnp.name then K0j (Jm ((look (ws.headD ByteArray.empty)).getD Jc).fs.length)
 else if sp.name=Jbp.name then K0j (Jm (if has ((look (ws.headD ByteArray.empty)).getD Jc).fs ((ws.drop 1).headD ByteArray.empty) then 1 else 0))
 else(5,ByteArray.empty,0,(ws.drop 1).map (J2o ((look (ws.headD ByteArray.empty)).getD Jc).fs))
def K0t (o:Res):Int×ByteArray×Int×List Lf:=(o.kd,o.tx,o.nn,o.xs)
theorem K1r (S:St) (now:Int) (k:ByteArray):S.ttl k now=K18 (Je S.L) (Je S.D) now k:=by unfold St.ttl K18;rfl
theorem K0z (q:K0i S now) (k:ByteArray):Kin S (S.due k now):=by rw[q.due];exact .refl S
theorem K1c {sp:Sp} (h:Ran S now sp ws o) (hk:sp.kind=1) (n:(S.L.map Prod.fst).Nodup) (q:K0i S now):
 Kin S o.st/\K0t o=K0k (Je S.L) S.L.length (Je S.D) now sp ws:=by
 have txt:∀k,J80 S now k=(((Je S.L k).getD Jc).kind==1):=fun k=>by unfold J80;rw[q.look]
 cases h
 case get h k=>
  subst h;refine⟨K0o n q k,?_⟩
  unfold K0k;rw[if_pos rfl,<-q.look];rfl
 case strlen h k=>
  subst h;refine⟨K0o n q k,?_⟩
  unfold K0k;rw[if_neg (by decide),if_pos rfl]
  show K0j (J9i S now k).2=_
  unfold J9i;rw[q.look];rfl
 case mget h k ws=>
  subst h;obtain⟨h1,h2⟩:=K0u (k::ws) n q
  refine⟨h1,?_⟩
  unfold K0k
  (repeat rw[if_neg (by decide)]);rw[if_pos rfl]
  show(_,_,_,(J4e S now (k::ws)).2)=_
  rw[h2];rfl
 case exists_ h=>
  subst h;have h1:=K0q q ws 0;refine⟨by show Kin S (J0s (J20 now) S 0 ws).1;rw[h1];exact .refl S,?_⟩
  unfold K0k
  (repeat rw[if_neg (by decide)]);rw[if_pos rfl]
  show K0j (Jm (J0s (J20 now) S 0 ws).2)=_
  rw[h1,Int.zero_add]
 case ttl h k=>
  subst h;refine⟨K0z q k,?_⟩
  unfold K0k
  (repeat rw[if_neg (by decide)]);rw[if_pos rfl]
  show K0j (Jm (Jrt ((S.due k now).ttl k now)))=_
  rw[q.due,K1r];rfl
 case pttl h k=>
  subst h;refine⟨K0z q k,?_⟩
  unfold K0k
  (repeat rw[if_neg (by decide)]);rw[if_pos rfl]
  show K0j (Jm ((S.due k now).ttl k now))=_
  rw[q.due,K1r];rfl
 case type h k=>
  subst h;refine⟨K0z q k,?_⟩
  unfold K0k
  (repeat rw[if_neg (by decide)]);rw[if_pos rfl]
  show K0j (J63 ((S.look k now).getD Jc).kind)=_
  rw[q.look];rfl
 case dbsize h=>
  subst h;refine⟨.refl S,?_⟩
  unfold K0k
  (repeat rw[if_neg (by decide)]);rw[if_pos rfl]
  rfl
 case htext h k ws ht=>
  refine⟨K0o n q k,?_⟩
  rw[txt] at ht;unfold K0k;rw[J71] at h;simp only[List.mem_cons,List.not_mem_nil,or_false] at h
  rcases h with rfl|rfl|rfl|rfl|rfl|rfl|rfl|rfl<;>first
   |exact absurd hk (by decide)
   |((repeat rw[if_neg (by decide)]);rw[List.headD_cons,if_pos ht];rfl)
 case hget h k m ht|hgetall h k ht|hlen h k ht|hexists h k m ht|hmget h k ws ht=>
  subst h;rw[txt] at ht;refine⟨K0o n q k,?_⟩
  generalize hA:K0t _=A;unfold K0k
  (repeat rw[if_neg (by decide)])
  rw[if_neg (by rw[List.headD_cons,ht];decide)]
  (repeat rw[if_neg (by decide)])
  try rw[if_pos rfl]
  rw[<-hA,q.look];rfl
 all_goals (subst_vars;exact absurd hk (by decide))
theorem K0p (h:Out S now ws o) (hw:(Ku ws).2=ByteArray.empty) (hk:(Ku ws).1.kind=1) (n:(S.L.map Prod.fst).Nodup) (q:K0i S now):
 Kin S o.st/\K0t o=K0k (Je S.L) S.L.length (Je S.D) now (Ku ws).1 (ws.drop 1):=by
 unfold Out at h;rw[if_pos hw] at h
 have hi:J3h (Ku ws)=true:=by
  unfold J3h;rw[hw,hk];decide
 rw[if_pos hi] at h;obtain⟨c,rest,rfl,h⟩:=h
 exact K1c h hk n q
theorem K1b {o':Res} (hw:(Ku ws).2=ByteArray.empty) (hk:(Ku ws).1.kind=1) (n:(S.L.map Prod.fst).Nodup) (q:K0i S now) (h:Out S now ws o) (kin:Kin S T) (h':Out T now ws o'):
 Kin T o'.st/\K0t o'=K0t o:=by
 obtain⟨_,h2⟩:=K0p h hw hk n q
 obtain⟨h3,h4⟩:=K0p h' hw hk (kin.nd n) (kin.quiet q)
 refine⟨h3,?_⟩
 rw[h4,h2,kin.look n,kin.L.length_eq,kin.D]
end Go.Proofs.YtncbcaabanoeoaaGreatDoor
