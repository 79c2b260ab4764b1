/-
container/heap's Push, Remove and Fix over expiry's row.
-/
import Derived.LaidEqlPtr
import Derived.Test.YtlbjfafbahphgaaGreatDoorQ06
set_option linter.unusedVariables false
set_option linter.unusedSimpArgs false
set_option maxRecDepth 100000
set_option maxHeartbeats 8000000
namespace Go.Proofs.YtlbjfafbahphgaaGreatDoor
open Go Go.RowKit
variable {w0 w:World}{l r sl:Hp}{xb mb i rb:Nat}{x:En}{es:List En}{ns:List Nd}{o:Obj}{k:ByteArray}{ks:List ByteArray}
theorem rowLen_any (a:Option Addr) (n c:Nat) (w:World):Calls Tryz.prog 324 #[.slice a n c] w fun e w'=>e= .returned (.int .i64 n)/\w=w':=by
 go_enter Tryz.func324,Tryz.ntmps324
 go_wp2_with fail
 go_ret
 exact⟨rfl,rfl⟩
def HeapNow (w0:World) (l:Hp) (xb mb:Nat) (r:Hp) (es0:List En) (w':World):Prop:=
 ∃rv' sl' es',es'.Perm es0/\HeapAt rv' sl' es'/\Step w0 l w' (HeapHp xb mb rv' sl' es'++r)
theorem hpush_any {eb:Nat} {t:Int} {key:ByteArray} {x:Value} {rv:Value}
 (hS:Step w0 l w ((eb,.cells #[.int .i64 t,.string key,x] 237 (0,0))::(HeapHp xb mb rv sl es++r))) (hat:HeapAt rv sl es) (hB:es.length<1099511627776):
  Calls Tryz.prog 189 #[rowI xb,.iface 230 (ptr' eb)] w fun e w'=>e= .returned (.tuple #[])/\HeapNow w0 l xb mb r (es++[⟨eb,t,key⟩]) w':=by
  have hpush:=hid (push_any hS hat (by omega))
  have hmp:=method_push xb
  have hml:=fun v=>method_len xb v
  clear hS hat
  go_enter Tryz.func189,Tryz.ntmps189
  go_wp2_with fail
  refine hpush.out.mono ?_
  rintro e w2 ⟨rfl,rv',sl',hat2,S2⟩
  have hlen:(es++[(⟨eb,t,key⟩:En)]).length=es.length+1:=by simp
  rcases hat2.rv with⟨h,_⟩|⟨g,cap,rfl,hc1,hc2⟩
  ·simp at h
  have c0:w2.cell? ⟨xb,0,none⟩=some (.slice (some ⟨g,0,none⟩) (es++[(⟨eb,t,key⟩:En)]).length cap):=cells_get S2.own.head 0
  have hup:=hid (up_any (j:=es.length) S2 hat2 (by rw[hlen];omega) (by rw[hlen];omega))
  rw[hlen] at c0 hup
  have hlenc:=hid (rowLen_any (some ⟨g,0,none⟩) (es.length+1) cap w2)
  clear hpush hmp S2 hat2 hlen
  go_wp2_with fail
  refine hlenc.out.mono ?_
  rintro e w3 ⟨rfl,rfl⟩
  go_wp2_with fail
  refine hup.out.mono ?_
  rintro e w4 ⟨rfl,sl4,es4,⟨hp4,_⟩,hat4,S4⟩
  replace hp4:=hid hp4
  replace hat4:=hid hat4
  replace S4:=hid S4
  go_wp2_with fail
  go_end0
  exact⟨rfl,_,sl4,es4,hp4.out,hat4.out,S4.out⟩
theorem hfix_any {rv:Value}
 (hS:Step w0 l w (HeapHp xb mb rv sl es++r)) (hat:HeapAt rv sl es) (hi:i<es.length) (hB:es.length<=1099511627776):
  Calls Tryz.prog 188 #[rowI xb,.int .i64 i] w fun e w'=>e= .returned (.tuple #[])/\HeapNow w0 l xb mb r es w':=by
  rcases hat.rv with⟨h,_⟩|⟨g,cap,rfl,hc1,hc2⟩
  ·subst h;simp at hi
  have c0:w.cell? ⟨xb,0,none⟩=some (.slice (some ⟨g,0,none⟩) es.length cap):=cells_get hS.own.head 0
  have hdown:=hid (down_any (i:=i) (m:=es.length) hS hat (by omega) (Nat.le_refl _) hB)
  have hlenc:=hid (rowLen_any (some ⟨g,0,none⟩) es.length cap w)
  have hml:=method_len xb (.slice (some ⟨g,0,none⟩) es.length cap)
  clear hS hat
  go_enter Tryz.func188,Tryz.ntmps188
  go_wp2_with fail
  refine hlenc.out.mono ?_
  rintro e w3 ⟨rfl,rfl⟩
  go_wp2_with fail
  refine hdown.out.mono ?_
  rintro e w4 ⟨⟨b,rfl⟩,sl4,es4,⟨hp4,_⟩,hat4,S4⟩
  have hlen4:=hp4.length_eq
  clear hdown hlenc
  cases b with
  |true=>
   replace hp4:=hid hp4
   replace hat4:=hid hat4
   replace S4:=hid S4
   replace hlen4:=hid hlen4
   go_wp2_with fail
   go_end0
   exact⟨rfl,_,sl4,es4,hp4.out,hat4.out,S4.out⟩
  |false=>
   have hup:=hid (up_any (j:=i) S4 hat4 (by omega) (by omega))
   replace hp4:=hid hp4
   replace hat4:=hid hat4
   replace S4:=hid S4
   replace hlen4:=hid hlen4
   go_wp2_with fail
   refine hup.out.mono ?_
   rintro e w5 ⟨rfl,sl5,es5,⟨hp5,_⟩,hat5,S5⟩
   replace hp5:=hid hp5
   replace hat5:=hid hat5
   replace S5:=hid S5
   go_wp2_with fail
   go_end0
   exact⟨rfl,_,sl5,es5,hp5.out.trans hp4.out,hat5.out,S5.out⟩
theorem last_of_drop {n:Nat} (h:es.drop n=[x]):es=es.take n++[x]:=by
 rw[<-h,List.take_append_drop]
theorem swapE_last {n:Nat} {z:En} (hin:i<n) (hn:n+1=es.length) (hz:es[i]? =some z):(swapE es i n).drop n=[z]:=by
 obtain⟨A,x,B,y,C,rfl,rfl,rfl⟩:=two_split (es:=es) hin (by omega)
 obtain rfl:x=z:=by simpa using hz
 have hC:C=[]:=by
  simp only[List.length_append,List.length_cons] at hn
  exact List.eq_nil_of_length_eq_zero (by omega)
 subst hC
 rw[swapE_split]
 have:A++y::(B++[x])=(A++y::B)++[x]:=by simp
 rw[this]
 exact List.drop_left' (by simp;omega)
def Removed (w0:World) (l:Hp) (xb mb:Nat) (r:Hp) (es:List En) (x:En) (e:Ending) (w':World):Prop:=
 e= .returned (.iface 230 (ptr' x.b))/\∃rv' sl' es',(es'++[x]).Perm es/\HeapAt rv' sl' es'/\Step w0 l w' ((x.b,EnObj x es'.length)::(HeapHp xb mb rv' sl' es'++r))
theorem pop_removed {g n cap:Nat} {es0:List En}
 (hS:Step w0 l w (HeapHp xb mb (.slice (some ⟨g,0,none⟩) n cap) sl es++r)) (hat:HeapAt (.slice (some ⟨g,0,none⟩) n cap) sl es) (hx:es.drop (es.length - 1)=[x]) (hp:es.Perm es0) (hB:es.length<=1099511627776):
  Calls Tryz.prog 334 #[.pointer (some ⟨xb,0,none⟩)] w (Removed w0 l xb mb r es0 x):=by
  have e1:=last_of_drop hx
  have hlen:(es.take (es.length - 1)).length<1099511627776:=by
   have:0<es.length:=by
    rcases Nat.eq_zero_or_pos es.length with h|h
    ·rw[List.eq_nil_of_length_eq_zero h] at hx;cases hx
    ·exact h
   simp;omega
  rw[e1] at hS hat hp
  refine(pop_any hS hat hlen).mono ?_
  rintro e w' ⟨he,rv',sl',hat',S'⟩
  exact⟨he,rv',sl',_,hp,hat',S'⟩
theorem hremove_any {rv:Value}
 (hS:Step w0 l w (HeapHp xb mb rv sl es++r)) (hat:HeapAt rv sl es) (hx:es[i]? =some x) (hB:es.length<=1099511627776):
  Calls Tryz.prog 167 #[rowI xb,.int .i64 i] w (Removed w0 l xb mb r es x):=by
  have hi:i<es.length:=(List.getElem?_eq_some_iff.1 hx).1
  rcases hat.rv with⟨h,_⟩|⟨g,cap,rfl,hc1,hc2⟩
  ·subst h;simp at hi
  have c0:w.cell? ⟨xb,0,none⟩=some (.slice (some ⟨g,0,none⟩) es.length cap):=cells_get hS.own.head 0
  have hlenc:=hid (rowLen_any (some ⟨g,0,none⟩) es.length cap w)
  have hml:=method_len xb (.slice (some ⟨g,0,none⟩) es.length cap)
  have hms:=method_swap xb (.slice (some ⟨g,0,none⟩) es.length cap)
  have hmp:=method_pop xb
  generalize hm:es.length=m at *
  by_cases hlast:i+1=m
  ·have hpop:=hid (pop_removed (x:=x) hS hat (by rw[hm,show m - 1=i by omega,List.drop_eq_getElem_cons (by omega),List.drop_of_length_le (by omega),(List.getElem?_eq_some_iff.1 hx).2]) (List.Perm.refl _) (by omega))
   have hq:(((m:Int) - 1) !=(i:Int))=false:=by rw[bne_eq_false_iff_eq];omega
   clear hS hat
   replace hm:=hid hm
   replace hlast:=hid hlast
   replace hx:=hid hx
   have hrem:Hid (∀e w',Removed w0 l xb mb r es x e w'->∃v,e= .returned v/\Removed w0 l xb mb r es x (.returned v) w'):=fun e w' h=>⟨_,h.1,rfl,h.2⟩
   go_enter Tryz.func167,Tryz.ntmps167
   go_wp2_with fail
   refine hlenc.out.mono ?_
   rintro e w3 ⟨rfl,rfl⟩
   go_wp2_with fail
   refine hpop.out.mono ?_
   intro e w4 hR
   obtain⟨v,rfl,hR'⟩:=hrem.out _ _ hR
   replace hR':=hid hR'
   clear hR hrem
   go_wp2_with fail
   go_ret
   exact hR'.out
  ·obtain⟨n,rfl⟩:∃n,m=n+1:=⟨m - 1,by omega⟩
   have hin:i<n:=by omega
   have hq:((n:Int) !=(i:Int))=true:=by rw[bne_iff_ne];omega
   have hnn:(((n+1:Nat):Int) - 1)=(n:Int):=by omega
   have hswap:=hid (heap_swap (i:=i) (j:=n) hS hat hin (by omega))
   clear hS hat
   replace hm:=hid hm
   replace hx:=hid hx
   have hrem:Hid (∀e w',Removed w0 l xb mb r es x e w'->∃v,e= .returned v/\Removed w0 l xb mb r es x (.returned v) w'):=fun e w' h=>⟨_,h.1,rfl,h.2⟩
   go_enter Tryz.func167,Tryz.ntmps167
   go_wp2_with fail
   refine hlenc.out.mono ?_
   rintro e w3 ⟨rfl,rfl⟩
   go_wp2_with fail
   refine hswap.out.mono ?_
   rintro e w4 ⟨rfl,sl4,hat4,S4⟩
   have hl4:(swapE es i n).length=n+1:=by rw[swapE_len];exact hm.out
   have hd4:=swapE_last hin hm.out.symm hx.out
   have hp4:=swapE_perm (es:=es) hin (by rw[hm.out];omega)
   have hdown:=hid (down_any (i:=i) (m:=n) S4 hat4 (by omega) (by omega) (by omega))
   clear hswap hlenc
   replace hd4:=hid hd4
   replace hp4:=hid hp4
   replace hl4:=hid hl4
   clear hat4 S4
   go_wp2_with fail
   refine hdown.out.mono ?_
   rintro e w5 ⟨⟨b,rfl⟩,sl5,es5,⟨hp5,hd5⟩,hat5,S5⟩
   have hl5:=hp5.length_eq.trans hl4.out
   clear hdown
   cases b with
   |true=>
    have hpop:=hid (pop_removed (x:=x) S5 hat5 (by rw[hl5,show n+1 - 1=n by omega,hd5];exact hd4.out) (hp5.trans hp4.out) (by omega))
    clear S5 hat5 hd5 hp5
    replace hl5:=hid hl5
    go_wp2_with fail
    refine hpop.out.mono ?_
    intro e w6 hR
    obtain⟨v,rfl,hR'⟩:=hrem.out _ _ hR
    replace hR':=hid hR'
    clear hR hrem
    go_wp2_with fail
    go_ret
    exact hR'.out
   |false=>
    have hup:=hid (up_any (j:=i) S5 hat5 (by omega) (by omega))
    replace hp5:=hid hp5
    replace hd5:=hid hd5
    replace hl5:=hid hl5
    clear S5 hat5
    go_wp2_with fail
    refine hup.out.mono ?_
    rintro e w6 ⟨rfl,sl6,es6,⟨hp6,hd6⟩,hat6,S6⟩
    have hl6:=hp6.length_eq.trans hl5.out
    have hd6':es6.drop n=[x]:=by
     have h1:es6.drop n=(es6.drop (i+1)).drop (n - (i+1)):=by rw[List.drop_drop];congr 1;omega
     have h2:es5.drop n=(es5.drop (i+1)).drop (n - (i+1)):=by rw[List.drop_drop];congr 1;omega
     rw[h1,hd6,<-h2,hd5.out]
     exact hd4.out
    have hpop:=hid (pop_removed (x:=x) S6 hat6 (by rw[hl6,show n+1 - 1=n by omega];exact hd6') (hp6.trans (hp5.out.trans hp4.out)) (by omega))
    clear S6 hat6 hd6 hp6 hd6' hup
    replace hl6:=hid hl6
    go_wp2_with fail
    refine hpop.out.mono ?_
    intro e w7 hR
    obtain⟨v,rfl,hR'⟩:=hrem.out _ _ hR
    replace hR':=hid hR'
    clear hR hrem
    go_wp2_with fail
    go_ret
    exact hR'.out
theorem mem_nodes {q:Nat} (hq:q∈ns.map Prod.fst) (prev fin:Nat):∃k a n,(q,LinkObj k a n)∈nodesHp prev ns fin:=by
 induction ns generalizing prev with
 |nil=>cases hq
 |cons p ns ih=>
  rcases List.mem_cons.1 hq with rfl|hq
  ·exact⟨_,_,_,List.mem_cons_self ..⟩
  ·obtain⟨k,a,n,h⟩:=ih hq p.1
   exact⟨k,a,n,List.mem_cons_of_mem _ h⟩
theorem hd_mem (ns:List Nd) (r:Nat):hd ns r=r\/hd ns r∈ns.map Prod.fst:=by
 cases ns with
 |nil=>exact .inl rfl
 |cons p ns=>exact .inr (by simp[hd])
theorem lst_mem (ns:List Nd) (r:Nat):lst ns r=r\/lst ns r∈ns.map Prod.fst:=by
 induction ns generalizing r with
 |nil=>exact .inl rfl
 |cons p ns ih=>
  rcases ih p.1 with h|h
  ·exact .inr (by rw[lst_cons,h];simp)
  ·exact .inr (by rw[lst_cons];simp[h])
theorem keys_nodes (ns:List Nd) (x y:Nat):keys (nodesHp x ns y)=ns.map Prod.fst:=by
 induction ns generalizing x with
 |nil=>rfl
 |cons p ns ih=>simp[nodes_cons,ih]
structure LinkAt (w:World) (q:Nat):Prop where
 c1:∃x,w.cell? ⟨q,1,none⟩=some x
 c2:∃x,w.cell? ⟨q,2,none⟩=some x
 fz:∀i,w.frozen? ⟨q,i,none⟩=false
theorem ring_cells (h:Own w (RecHp rb mb o ns++r)) {q:Nat} (hq:q=rb\/q∈ns.map Prod.fst):LinkAt w q:=by
 rcases hq with rfl|hq
 ·have:=h.left.head
  exact⟨⟨_,cells_get this 1⟩,⟨_,cells_get this 2⟩,fun i=>cells_free this i⟩
 ·obtain⟨k,a,n,hm⟩:=mem_nodes hq rb rb
  have:=h.left.at_ _ (List.mem_cons_of_mem _ (List.mem_cons_of_mem _ hm))
  exact⟨⟨_,cells_get this 1⟩,⟨_,cells_get this 2⟩,fun i=>cells_free this i⟩
theorem ring_node {a b:List Nd} {p:Nd} (h:Own w (RecHp rb mb o (a++p::b))):w.heap[p.1]? =some (LinkObj p.2 (lst a rb) (hd b rb)):=by
 refine h.at_ (p.1,_) ?_
 rw[RecHp,nodes_mid]
 simp
theorem rout_any {a b:List Nd} {p:Nd} (h:Step w0 l w (RecHp rb mb o (a++p::b))):
 Calls Tryz.prog 141 #[ptr p.1] w fun e w'=>e= .returned (.tuple #[])/\Step w0 l w' ((p.1,LinkObj p.2 (lst a rb) (hd b rb))::RecHp rb mb o (a++b)):=by
 have hn:=ring_node h.own
 have ha:=ring_cells (r:=[]) (by simpa using h.own) (q:=lst a rb) ((lst_mem a rb).imp id (by intro h;simp at h⊢;exact .inl h))
 have hb:=ring_cells (r:=[]) (by simpa using h.own) (q:=hd b rb) ((hd_mem b rb).imp id (by intro h;simp at h⊢;exact .inr (.inr h)))
 obtain⟨x,hx⟩:=ha.c2
 obtain⟨y,hy⟩:=hb.c1
 refine(out_any p.1 (lst a rb) (hd b rb) x y w (cells_get hn 1) (cells_get hn 2) hx hy (ha.fz 2) (hb.fz 1)).mono ?_
 rintro e w' ⟨he,rfl⟩
 exact⟨he,(ring_out h).drew⟩
theorem rlast_any {b:Nat} {x1 x2:Value} (h:Step w0 l w ((b,.cells #[.string k,x1,x2] 98 (0,0))::RecHp rb mb o ns)):
 Calls Tryz.prog 142 #[ptr rb,ptr b] w fun e w'=>e= .returned (.tuple #[])/\Step w0 l w' (RecHp rb mb o (ns++[(b,k)])):=by
 have hb:=h.own.head
 have hr:=h.own.tail.head
 have hnd:=h.own.nd
 simp only[keys_cons,RecHp,keys_nodes,List.nodup_cons,List.mem_cons,not_or] at hnd
 have hq:=ring_cells (r:=[]) (by simpa using h.own.tail) (q:=lst ns rb) (lst_mem ns rb)
 obtain⟨y,hy⟩:=hq.c2
 have hnq:b≠lst ns rb:=by
  intro e
  rcases lst_mem ns rb with h'|h'
  ·exact hnd.1.1 (e.trans h')
  ·exact hnd.1.2.2 (e▸h')
 refine(last_any rb b (lst ns rb) x1 x2 y w hnd.1.1 hnq (cells_get hb 1) (cells_get hb 2) (cells_get hr 1) hy (cells_free hb 1) (cells_free hb 2) (hq.fz 2) (cells_free hr 1)).mono ?_
 rintro e w' ⟨he,rfl⟩
 exact⟨he,(ring_last h).drew.drew⟩
theorem zeroLink (w:World):(zeroValue 96).run Tryz.prog w= .ok (.pointer none) w:=by kernel_rfl
theorem mlook_perm {α:Type} {m m':AL α} (hp:m.Perm m') (hn:(m.map Prod.fst).Nodup) (k:ByteArray):mlook m k=mlook m' k:=by
 have hn':(m'.map Prod.fst).Nodup:=(hp.map Prod.fst).nodup_iff.1 hn
 have key:∀(l:AL α),(l.map Prod.fst).Nodup->∀v,mlook l k=some v ↔ (k,v)∈l:=by
  intro l hl v
  induction l with
  |nil=>simp[mlook]
  |cons p l ih=>
   simp only[List.map_cons,List.nodup_cons] at hl
   simp only[mlook,List.find?_cons] at ih⊢
   by_cases hk:p.1=k
   ·simp only[hk,decide_true,Option.map_some,Option.some.injEq,List.mem_cons]
    constructor
    ·intro h;left;rw[<-h,<-hk]
    ·rintro (h|h)
     ·rw[<-h]
     ·exact absurd (List.mem_map.2 ⟨_,h,rfl⟩) (hk▸hl.1)
   ·simp only[hk,decide_false,List.mem_cons]
    rw[ih hl.2]
    constructor
    ·exact .inr
    ·rintro (h|h)
     ·exact absurd (by rw[<-h]) hk
     ·exact h
 cases h1:mlook m k with
 |some v=>exact((key m' hn' v).2 (hp.mem_iff.1 ((key m hn v).1 h1))).symm
 |none=>
  cases h2:mlook m' k with
  |none=>rfl
  |some v=>
   have:=(key m hn v).2 (hp.mem_iff.2 ((key m' hn' v).1 h2))
   rw[h1] at this;cases this
theorem mlook_nodes (ns:List Nd) (key:ByteArray):(mlook (ns.map ndPtr) key=none/\key∉ns.map Prod.snd)\/∃a p b,ns=a++p::b/\p.2=key/\mlook (ns.map ndPtr) key=some (ptr p.1):=by
 induction ns with
 |nil=>exact .inl ⟨rfl,by simp⟩
 |cons q ns ih=>
  by_cases hq:q.2=key
  ·refine .inr ⟨[],q,ns,rfl,hq,?_⟩
   simp[mlook,ndPtr,hq]
  ·rcases ih with⟨h1,h2⟩|⟨a,p,b,h1,h2,h3⟩
   ·refine .inl ⟨?_,by simp only[List.map_cons,List.mem_cons,not_or];exact⟨fun e=>hq e.symm,h2⟩⟩
    simpa[mlook,ndPtr,hq] using h1
   ·refine .inr ⟨q::a,p,b,by rw[h1];rfl,h2,?_⟩
    simpa[mlook,ndPtr,hq] using h3
theorem ndPtr_keys (ns:List Nd):(ns.map ndPtr).map Prod.fst=ns.map Prod.snd:=by simp[ndPtr,Function.comp_def]
def kdel (ks:List ByteArray) (k:ByteArray):List ByteArray:=ks.filter (fun x=>decide (x≠k))
theorem kdel_mid {a b:List ByteArray} (h:(a++k::b).Nodup):kdel (a++k::b) k=a++b:=by
 rw[List.nodup_append] at h
 have h2:=h.2.1
 rw[List.nodup_cons] at h2
 have ha:a.filter (fun x=>decide (x≠k))=a:=by
  rw[List.filter_eq_self];intro x hx;have:=h.2.2 x hx k (by simp);simpa using this
 have hb:b.filter (fun x=>decide (x≠k))=b:=by
  rw[List.filter_eq_self];intro x hx;have:x≠k:=fun e=>h2.1 (e▸hx);simpa using this
 simp only[kdel,List.filter_append,List.filter_cons,ha,hb]
 simp
theorem kdel_none (h:k∉ks):kdel ks k=ks:=by
 rw[kdel,List.filter_eq_self];intro x hx;have:x≠k:=fun e=>h (e▸hx);simpa using this
def kmem (ks:List ByteArray) (k:ByteArray):Bool:=ks.any (fun x=>decide (x=k))
theorem kmem_yes (h:k∈ks):kmem ks k=true:=List.any_eq_true.2 ⟨k,h,by simp⟩
theorem kmem_no (h:k∉ks):kmem ks k=false:=by
 rw[kmem,List.any_eq_false];intro x hx e;exact h (by simpa using (of_decide_eq_true e)▸hx)
def TouchPost (l:Hp) (rb:Nat) (ks:List ByteArray) (key:ByteArray) (w:World) (e:Ending) (w':World):Prop:=
 e= .returned (.bool (!kmem ks key))/\∃l',IsRecent l' rb (kdel ks key++[key])/\Step w l w' l'
theorem TouchPost.mk {l':Hp} {key:ByteArray} {w':World} {is:Bool} (hi:(!kmem ks key)=is) (h:IsRecent l' rb (kdel ks key++[key])) (hs:Step w l w' l'):
 TouchPost l rb ks key w (.returned (.bool is)) w':=by subst hi;exact⟨rfl,l',h,hs⟩
theorem touch_any (l:Hp) (rb:Nat) (ks:List ByteArray) (key:ByteArray) (w:World) (hR:IsRecent l rb ks) (ho:Own w l):
 Calls Tryz.prog 86 #[ptr rb,.string key] w (TouchPost l rb ks key w):=by
 obtain⟨mb,o,ns,m,rfl,rfl,hm,hp,hn⟩:=hR
 have hmn:(m.map Prod.fst).Nodup:=by
  have:(m.map Prod.fst).Perm (ns.map Prod.snd):=by rw[<-ndPtr_keys];exact hp.map _
  exact this.nodup_iff.2 hn
 have c3:w.cell? ⟨rb,3,none⟩=some (.map (some mb)):=cells_get ho.head 3
 have hlk:=run_look (P:=Tryz.prog) (t:=99) Tryz.underlying99 Tryz.underlying9 zeroLink ho.tail.head hm key
 have hpost:Hid (∀w' l' is,(!kmem (ns.map Prod.snd) key)=is->IsRecent l' rb (kdel (ns.map Prod.snd) key++[key])->Step w (RecHp rb mb o ns) w' l'->TouchPost (RecHp rb mb o ns) rb (ns.map Prod.snd) key w (.returned (.bool is)) w'):=fun w' l' is h1 h2 h3=>.mk h1 h2 h3
 rcases mlook_nodes ns key with⟨h1,h2⟩|⟨a,p,b,rfl,rfl,h3⟩
 ·rw[mlook_perm hp hmn,h1] at hlk
  simp only[Option.getD_none,Option.isSome_none] at hlk
  have hst:=hid (Step.refl ho)
  have hkd:=kdel_none h2
  have hlm:mlook m key=none:=by rw[mlook_perm hp hmn,h1]
  obtain⟨S1,S1'⟩:∃S:Step w (RecHp rb mb o ns) (w.alloc (.cells #[.string key,.pointer none,.pointer none] 98)) ((w.heap.size,.cells #[.string key,.pointer none,.pointer none] 98)::RecHp rb mb o ns),True:=⟨hst.out.alloc _,trivial⟩
  have hmb1:(w.alloc (.cells #[.string key,.pointer none,.pointer none] 98)).heap[mb]? =some o:=S1.own.tail.tail.head
  obtain⟨o',hup,hm'⟩:=run_put (P:=Tryz.prog) (t:=99) Tryz.underlying99 Tryz.underlying9 hmb1 hm hmn key (ptr w.heap.size)
  obtain⟨w2,hw2⟩:∃w2:World,w2={(w.alloc (.cells #[.string key,.pointer none,.pointer none] 98)) with heap:=(w.alloc (.cells #[.string key,.pointer none,.pointer none] 98)).heap.setIfInBounds mb o'}:=⟨_,rfl⟩
  rw[<-hw2] at hup
  have S2:Step w (RecHp rb mb o ns) w2 ((w.heap.size,.cells #[.string key,.pointer none,.pointer none] 98)::RecHp rb mb o' ns):=by
   have h1:=(S1.permR (l2:=(mb,o)::(w.heap.size,.cells #[.string key,.pointer none,.pointer none] 98)::(rb,RootObj (lst ns rb) (hd ns rb) mb)::nodesHp rb ns rb) (List.perm_middle (l₁:=[_,_]))).obj hw2
   exact h1.permR (List.perm_middle (l₁:=[_,_])).symm
  have hlast:=hid (rlast_any S2)
  have hfin:Hid (IsRecent (RecHp rb mb o' (ns++[(w.heap.size,key)])) rb (kdel (ns.map Prod.snd) key++[key])):=by
   refine⟨mb,o',ns++[(w.heap.size,key)],_,rfl,by rw[hkd];simp,hm',?_,?_⟩
   ·rw[mput,hlm]
    simp only[Option.isSome_none,Bool.false_eq_true,if_false,List.map_append,List.map_cons,List.map_nil]
    exact hp.append_right _
   ·rw[hkd,List.nodup_append]
    refine⟨hn,by simp,?_⟩
    intro x hx y hy
    simp only[List.mem_cons,List.not_mem_nil,or_false] at hy
    subst hy
    rintro rfl
    exact h2 hx
  have c3':(w.alloc (.cells #[.string key,.pointer none,.pointer none] 98)).cell? ⟨rb,3,none⟩=some (.map (some mb)):=cells_get S1.own.tail.head 3
  have hrl:=block_lt ho.head
  replace h2:=hid h2
  clear hw2 S1 S1' S2 hm' hmb1 hlm hkd hm hp hn hmn h1 ho hst
  go_enter Tryz.func86,Tryz.ntmps86
  go_wp2_with fail
  refine hlast.out.mono ?_
  rintro e w3 ⟨rfl,S3⟩
  replace S3:=hid S3
  go_wp2_with fail
  go_ret
  exact hpost.out _ _ _ (by rw[kmem_no h2.out];rfl) hfin.out S3.out
 ·rw[mlook_perm hp hmn,h3] at hlk
  simp only[Option.getD_some,Option.isSome_some] at hlk
  have hst:=Step.refl ho
  have hout:=hid (rout_any hst)
  have hmem:p.2∈(a++p::b).map Prod.snd:=by simp
  have hkd:kdel ((a++p::b).map Prod.snd) p.2=(a++b).map Prod.snd:=by
   have:=hn;simp only[List.map_append,List.map_cons] at this⊢
   exact kdel_mid this
  have hfin:Hid (IsRecent (RecHp rb mb o ((a++b)++[(p.1,p.2)])) rb (kdel ((a++p::b).map Prod.snd) p.2++[p.2])):=by
   have hpm:((a++b)++[(p.1,p.2)]).Perm (a++p::b):=by
    refine List.Perm.trans ?_ List.perm_middle.symm
    exact List.perm_append_comm (l₁:=a++b) (l₂:=[p])
   refine⟨mb,o,(a++b)++[(p.1,p.2)],m,rfl,by rw[hkd];simp,hm,hp.trans (hpm.symm.map _),?_⟩
   rw[hkd]
   have:((a++b).map Prod.snd++[p.2]).Perm ((a++p::b).map Prod.snd):=by
    have:=hpm.map Prod.snd
    simpa using this
   exact this.nodup_iff.2 hn
  replace hmem:=hid hmem
  clear hkd h3 hm hp hmn hn ho hst
  go_enter Tryz.func86,Tryz.ntmps86
  go_wp2_with fail
  refine hout.out.mono ?_
  rintro e w2 ⟨rfl,S2⟩
  have hlast:=hid (rlast_any S2)
  clear hlk
  go_wp2_with fail
  refine hlast.out.mono ?_
  rintro e w3 ⟨rfl,S3⟩
  replace S3:=hid S3
  go_wp2_with fail
  go_ret
  exact hpost.out _ _ _ (by rw[kmem_yes hmem.out];rfl) hfin.out S3.out
def RDropPost (l:Hp) (rb:Nat) (ks:List ByteArray) (key:ByteArray) (w:World) (e:Ending) (w':World):Prop:=
 e= .returned (.bool (kmem ks key))/\∃l',IsRecent l' rb (kdel ks key)/\Step w l w' l'
theorem RDropPost.mk {l':Hp} {key:ByteArray} {w':World} {is:Bool} (hi:kmem ks key=is) (h:IsRecent l' rb (kdel ks key)) (hs:Step w l w' l'):
 RDropPost l rb ks key w (.returned (.bool is)) w':=by subst hi;exact⟨rfl,l',h,hs⟩
theorem rdrop_any (l:Hp) (rb:Nat) (ks:List ByteArray) (key:ByteArray) (w:World) (hR:IsRecent l rb ks) (ho:Own w l):
 Calls Tryz.prog 206 #[ptr rb,.string key] w (RDropPost l rb ks key w):=by
 obtain⟨mb,o,ns,m,rfl,rfl,hm,hp,hn⟩:=hR
 have hmn:(m.map Prod.fst).Nodup:=by
  have:(m.map Prod.fst).Perm (ns.map Prod.snd):=by rw[<-ndPtr_keys];exact hp.map _
  exact this.nodup_iff.2 hn
 have c3:w.cell? ⟨rb,3,none⟩=some (.map (some mb)):=cells_get ho.head 3
 have hlk:=run_look (P:=Tryz.prog) (t:=99) Tryz.underlying99 Tryz.underlying9 zeroLink ho.tail.head hm key
 have hpost:Hid (∀w' l' is,kmem (ns.map Prod.snd) key=is->IsRecent l' rb (kdel (ns.map Prod.snd) key)->Step w (RecHp rb mb o ns) w' l'->RDropPost (RecHp rb mb o ns) rb (ns.map Prod.snd) key w (.returned (.bool is)) w'):=fun w' l' is h1 h2 h3=>.mk h1 h2 h3
 rcases mlook_nodes ns key with⟨h1,h2⟩|⟨a,p,b,rfl,rfl,h3⟩
 ·rw[mlook_perm hp hmn,h1] at hlk
  simp only[Option.getD_none,Option.isSome_none] at hlk
  have hfin:Hid (IsRecent (RecHp rb mb o ns) rb (kdel (ns.map Prod.snd) key)):=⟨mb,o,ns,m,rfl,kdel_none h2,hm,hp,by rw[kdel_none h2];exact hn⟩
  have hst:=hid (Step.refl ho)
  replace h2:=hid h2
  clear h1 hm hp hn hmn ho
  go_enter Tryz.func206,Tryz.ntmps206
  go_wp2_with fail
  go_ret
  exact hpost.out _ _ _ (kmem_no h2.out) hfin.out hst.out
 ·rw[mlook_perm hp hmn,h3] at hlk
  simp only[Option.getD_some,Option.isSome_some] at hlk
  have hout:=hid (rout_any (Step.refl ho))
  have hmem:=hid (show p.2∈(a++p::b).map Prod.snd by simp)
  have hkd:kdel ((a++p::b).map Prod.snd) p.2=(a++b).map Prod.snd:=by
   have:=hn;simp only[List.map_append,List.map_cons] at this⊢
   exact kdel_mid this
  have hm':=hid hm
  have hp':=hid hp
  have hn':=hid hn
  have hkd':=hid hkd
  have hmn':=hid hmn
  have hne:=ho.nd
  clear hkd h3 hm hp hmn hn ho
  go_enter Tryz.func206,Tryz.ntmps206
  go_wp2_with fail
  refine hout.out.mono ?_
  rintro e w2 ⟨rfl,S2⟩
  have c3':w2.cell? ⟨rb,3,none⟩=some (.map (some mb)):=cells_get S2.own.tail.head 3
  obtain⟨o',hdel,hm2⟩:=run_del (P:=Tryz.prog) (t:=99) Tryz.underlying99 Tryz.underlying9 0 S2.own.tail.tail.head hm'.out hmn'.out p.2 9
  obtain⟨w3,hw3⟩:∃w3:World,w3={w2 with heap:=w2.heap.setIfInBounds mb o'}:=⟨_,rfl⟩
  rw[<-hw3] at hdel
  have S3:Step w (RecHp rb mb o (a++p::b)) w3 (RecHp rb mb o' (a++b)):=by
   have h1:=(S2.permR (l2:=(mb,o)::(p.1,LinkObj p.2 (lst a rb) (hd b rb))::(rb,RootObj (lst (a++b) rb) (hd (a++b) rb) mb)::nodesHp rb (a++b) rb) (List.perm_middle (l₁:=[_,_]))).obj hw3
   have h2:=h1.permR (l2:=(p.1,LinkObj p.2 (lst a rb) (hd b rb))::(rb,RootObj (lst (a++b) rb) (hd (a++b) rb) mb)::(mb,o')::nodesHp rb (a++b) rb) (List.perm_middle (l₁:=[_,_])).symm
   exact h2.less (List.sublist_cons_self _ _)
  have hfin:Hid (IsRecent (RecHp rb mb o' (a++b)) rb (kdel ((a++p::b).map Prod.snd) p.2)):=by
   refine⟨mb,o',a++b,_,rfl,hkd'.out,hm2,?_,by rw[hkd'.out];have h0:=hn'.out;simp only[List.map_append,List.map_cons] at h0⊢;exact(List.nodup_cons.1 (List.perm_middle.nodup_iff.1 h0)).2⟩
   have h1:=hp'.out.filter (fun q=>decide (q.1≠p.2))
   refine List.Perm.trans h1 (List.Perm.of_eq ?_)
   have h0:=hn'.out
   simp only[List.map_append,List.map_cons] at h0
   have h0:=List.perm_middle.nodup_iff.1 h0
   rw[List.nodup_cons] at h0
   simp only[List.map_append,List.map_cons,List.filter_append,List.filter_cons]
   have hx:∀c:List Nd,(∀q∈c,q.2≠p.2)->(c.map ndPtr).filter (fun q=>decide (q.1≠p.2))=c.map ndPtr:=by
    intro c hc
    rw[List.filter_eq_self]
    intro q hq
    obtain⟨r,hr,rfl⟩:=List.mem_map.1 hq
    have h9:=hc r hr
    exact decide_eq_true h9
   rw[hx a (fun q hq e=>h0.1 (by rw[<-e];exact List.mem_append_left _ (List.mem_map_of_mem hq))),hx b (fun q hq e=>h0.1 (by rw[<-e];exact List.mem_append_right _ (List.mem_map_of_mem hq)))]
   simp[ndPtr]
  replace S3:=hid S3
  clear hlk hw3 hm2 S2
  go_wp2_with fail
  go_ret
  exact hpost.out _ _ _ (kmem_yes hmem.out) hfin.out S3.out
def oldest (ks:List ByteArray) (but:ByteArray):ByteArray×Bool:=match ks with
 |[]=>(ByteArray.empty,false)
 |k::r=>if k=but then(match r with
  |[]=>(ByteArray.empty,false)
  |k2::_=>(k2,true)) else(k,true)
theorem run_neq_same {P:Program} (w:World) {tp te:TypeId} {j:TypeInfo} (a:Addr) (hp:P.underlying tp=some (.pointer te)) (hte:P.info? te=some j):
 (binOp .neq tp (.pointer (some a)) (.pointer (some a))).run P w= .ok (.bool false) w:=by
 have h:∀d:Nat,(Op.equalIn (d+1) tp (.pointer (some a)) (.pointer (some a))).run P w= .ok true w:=fun d=>by
  simp[Op.equalIn,run_underlying hp,sizeOf,typeInfo,hte,run_sameAddr_same]
 simp only[binOp]
 simp[Op.equal,Op.maxDepth,h 9999]
theorem run_neq_other {P:Program} (w:World) {tp te:TypeId} {j:TypeInfo} {a b:Addr} {ca cb:Array Value} {ta tb:TypeId} (hp:P.underlying tp=some (.pointer te)) (hte:P.info? te=some j) (hsz:j.size≠0)
 (hne:a≠b) (ha:w.heap[a.block]? =some (.cells ca ta (0,0))) (hb:w.heap[b.block]? =some (.cells cb tb (0,0))):
  (binOp .neq tp (.pointer (some a)) (.pointer (some b))).run P w= .ok (.bool true) w:=by
  have h:∀d:Nat,(Op.equalIn (d+1) tp (.pointer (some a)) (.pointer (some b))).run P w= .ok false w:=fun d=>by
   simp[Op.equalIn,run_underlying hp,sizeOf,typeInfo,hte,hsz,run_sameAddr_other w hne ha hb]
  simp only[binOp]
  simp[Op.equal,Op.maxDepth,h 9999]
theorem linkInfo:∃j,Tryz.prog.info? 98=some j/\j.size≠0:=by
 have h:(Tryz.prog.info? 98).map (fun i=>i.size)=some 3:=by kernel_rfl
 obtain⟨j,hj,hs⟩:=Option.map_eq_some_iff.1 h
 exact⟨j,hj,by rw[hs];decide⟩
theorem link_same (a:Addr) (w:World):(binOp .neq 96 (.pointer (some a)) (.pointer (some a))).run Tryz.prog w= .ok (.bool false) w:=by
 obtain⟨j,hj,_⟩:=linkInfo
 exact run_neq_same w a Tryz.underlying96 hj
theorem link_other {a b:Nat} {oa ob:Obj} (hne:a≠b) (ha:w.heap[a]? =some oa) (hb:w.heap[b]? =some ob) (ca:∃c t,oa= .cells c t (0,0)) (cb:∃c t,ob= .cells c t (0,0)):
 ∀n,(binOp .neq 96 (ptr a) (ptr b)).run Tryz.prog (w.drewN n)= .ok (.bool true) (w.drewN n):=by
 intro n
 obtain⟨j,hj,hs⟩:=linkInfo
 obtain⟨c,t,rfl⟩:=ca
 obtain⟨c',t',rfl⟩:=cb
 exact run_neq_other (w.drewN n) Tryz.underlying96 hj hs (fun e=>hne (congrArg Addr.block e)) ha hb
theorem oldest_any (l:Hp) (rb:Nat) (ks:List ByteArray) (but:ByteArray) (w:World) (hR:IsRecent l rb ks) (ho:Own w l):
 Calls Tryz.prog 187 #[ptr rb,.string but] w fun e w'=>e= .returned (.tuple #[.string (oldest ks but).1,.bool (oldest ks but).2])/\∃n,w'=w.drewN n:=by
 obtain⟨mb,o,ns,m,rfl,rfl,hm,hp,hn⟩:=hR
 have c0:w.cell? ⟨rb,0,none⟩=some (.string ByteArray.empty):=cells_get ho.head 0
 have c2:w.cell? ⟨rb,2,none⟩=some (ptr (hd ns rb)):=cells_get ho.head 2
 have hsame:=link_same ⟨rb,0,none⟩
 cases ns with
 |nil=>
  simp only[hd_nil] at c2
  clear hm hp hn ho
  go_enter Tryz.func187,Tryz.ntmps187
  go_wp2_with fail
  go_quiet (fail)
  go_wp2_with fail
  go_ret2
  exact⟨rfl,_,rfl⟩
 |cons p r=>
  have hnd:=ho.nd
  simp only[keys_cons,RecHp,keys_nodes,List.map_cons,List.nodup_cons,List.mem_cons,not_or] at hnd
  have hne:¬p.1=rb:=fun e=>hnd.1.2.1 e.symm
  have hpo:w.heap[p.1]? =some (LinkObj p.2 rb (hd r rb)):=ring_node (a:=[]) ho
  have d0:w.cell? ⟨p.1,0,none⟩=some (.string p.2):=cells_get hpo 0
  have d2:w.cell? ⟨p.1,2,none⟩=some (ptr (hd r rb)):=cells_get hpo 2
  simp only[hd_cons] at c2
  have hoth:=link_other (fun e=>hnd.1.2.1 e.symm) hpo ho.head ⟨_,_,rfl⟩ ⟨_,_,rfl⟩
  have hoth0:=hoth 0
  rw[World.drewN_zero] at hoth0
  by_cases hb:p.2=but
  ·have ht:=str_is hb
   cases r with
   |nil=>
    simp only[hd_nil] at d2
    have hol:oldest ([p].map Prod.snd) but=(ByteArray.empty,false):=by simp[oldest,hb]
    rw[hol]
    clear hm hp hn ho hol hb hnd hpo
    go_enter Tryz.func187,Tryz.ntmps187
    go_wp2_with fail
    go_quiet (fail)
    go_wp2_with fail
    go_ret2
    exact⟨rfl,_,rfl⟩
   |cons q r=>
    have hpq:w.heap[q.1]? =some (LinkObj q.2 p.1 (hd r rb)):=ring_node (a:=[p]) ho
    have e0:w.cell? ⟨q.1,0,none⟩=some (.string q.2):=cells_get hpq 0
    have hne2:¬q.1=rb:=fun e=>hnd.1.2.2 (by simp[e])
    simp only[hd_cons] at d2
    have hoth2:=link_other hne2 hpq ho.head ⟨_,_,rfl⟩ ⟨_,_,rfl⟩
    have hoth20:=hoth2 0
    rw[World.drewN_zero] at hoth20
    have hol:oldest ((p::q::r).map Prod.snd) but=(q.2,true):=by simp[oldest,hb]
    rw[hol]
    clear hm hp hn ho hol hb hnd hpo hpq
    go_enter Tryz.func187,Tryz.ntmps187
    go_wp2_with fail
    go_quiet (fail)
    go_wp2_with fail
    go_ret2
    exact⟨rfl,_,rfl⟩
  ·have ht:=str_isnt hb
   have hol:oldest ((p::r).map Prod.snd) but=(p.2,true):=by simp[oldest,hb]
   rw[hol]
   clear hm hp hn ho hol hb hnd hpo
   go_enter Tryz.func187,Tryz.ntmps187
   go_wp2_with fail
   go_quiet (fail)
   go_wp2_with fail
   go_ret2
   exact⟨rfl,_,rfl⟩
theorem rclear_any (rb:Nat) (x1 x2 x3:Value) (l0:Hp) (w0 w:World) (hS:Step w0 l0 w [(rb,.cells #[.string ByteArray.empty,x1,x2,x3] 101 (0,0))]):
 Calls Tryz.prog 35 #[ptr rb] w fun e w'=>e= .returned (.tuple #[])/\∃l',IsRecent l' rb []/\Step w0 l0 w' l':=by
 have hb:=hS.own.head
 have c1:w.cell? ⟨rb,1,none⟩=some x1:=cells_get hb 1
 have c2:w.cell? ⟨rb,2,none⟩=some x2:=cells_get hb 2
 have c3:w.cell? ⟨rb,3,none⟩=some x3:=cells_get hb 3
 have f1:∀j,w.frozen? ⟨rb,j,none⟩=false:=fun j=>cells_free hb j
 have hlt:=block_lt hb
 have hmm:=@run_makeMap Tryz.prog
 have hst:=hid hS
 clear hS hb
 go_enter Tryz.func35,Tryz.ntmps35
 go_wp2_with fail
 go_region
 go_wp2_with fail
 go_end0
 refine⟨rfl,RecHp rb w.heap.size (.map #[] 0) [],⟨_,_,[],[],rfl,rfl,StrMap.empty,List.Perm.refl _,List.nodup_nil⟩,?_⟩
 have h1:=(((((hst.out.set 3 (.map (some w.heap.size))).set 1 (ptr rb)).set 2 (ptr rb)).alloc (.map #[] 0)).drew).permR (List.Perm.swap _ _ _)
 have e:(((w.setCell ⟨rb,3,none⟩ (.map (some w.heap.size))).setCell ⟨rb,1,none⟩ (ptr rb)).setCell ⟨rb,2,none⟩ (ptr rb)).heap.size=w.heap.size:=by simp
 rw[e] at h1
 exact h1
theorem rnew_any (w:World):Calls Tryz.prog 20 #[] w fun e w'=>∃rb l',e= .returned (ptr rb)/\IsRecent l' rb []/\Step w [] w' l':=by
 have S1:=(Step.refl (Own.nil w)).alloc (.cells #[.string ByteArray.empty,.pointer none,.pointer none,.map none] 101)
 have hcl:=hid (rclear_any w.heap.size _ _ _ [] w _ S1)
 clear S1
 go_enter Tryz.func20,Tryz.ntmps20
 go_wp2_with fail
 refine hcl.out.mono ?_
 rintro e w2 ⟨rfl,l',hR,S2⟩
 replace hR:=hid hR
 replace S2:=hid S2
 go_wp2_with fail
 go_ret
 exact⟨_,l',rfl,hR.out,S2.out⟩
end Go.Proofs.YtlbjfafbahphgaaGreatDoor
