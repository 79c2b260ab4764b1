/-
recent: keys in the order of their use, as a ring of links with a map: New, Touch, Drop, Oldest.
-/
import Derived.Test.YtlbjfafbahphgaaGreatDoorQ05
set_option linter.unusedVariables false
set_option linter.unusedSimpArgs false
set_option maxRecDepth 100000
set_option maxHeartbeats 8000000
namespace Go.Proofs.YtlbjfafbahphgaaGreatDoor
open Go Go.RowKit
variable {w0 w:World}{l r sl:Hp}{rb mb i j xb g cap:Nat}{o:Obj}{a:Addr}{P:Program}{t:TypeId}
abbrev Nd:=Nat×ByteArray
def hd (ns:List Nd) (r:Nat):Nat:=match ns with
 |[]=>r
 |p::_=>p.1
def lst (ns:List Nd) (r:Nat):Nat:=match ns with
 |[]=>r
 |p::ns=>lst ns p.1
abbrev linkVals (k:ByteArray) (a n:Nat):Array Value:=#[.string k,ptr a,ptr n]
abbrev LinkObj (k:ByteArray) (a n:Nat):Obj:=.cells (linkVals k a n) 98 (0,0)
def nodesHp (prev:Nat) (ns:List Nd) (fin:Nat):Hp:=match ns with
 |[]=>[]
 |p::ns=>(p.1,LinkObj p.2 prev (hd ns fin))::nodesHp p.1 ns fin
abbrev rootVals (a n mb:Nat):Array Value:=#[.string ByteArray.empty,ptr a,ptr n,.map (some mb)]
abbrev RootObj (a n mb:Nat):Obj:=.cells (rootVals a n mb) 101 (0,0)
def RecHp (rb mb:Nat) (o:Obj) (ns:List Nd):Hp:=(rb,RootObj (lst ns rb) (hd ns rb) mb)::(mb,o)::nodesHp rb ns rb
def ndPtr (p:Nd):ByteArray×Value:=(p.2,ptr p.1)
def IsRecent (l:Hp) (rb:Nat) (ks:List ByteArray):Prop:=
 ∃mb o ns m,l=RecHp rb mb o ns/\ks=ns.map Prod.snd/\StrMap o m/\m.Perm (ns.map ndPtr)/\ks.Nodup
theorem hd_nil (r:Nat):hd [] r=r:=rfl
theorem hd_cons (p:Nd) (a:List Nd) (r:Nat):hd (p::a) r=p.1:=rfl
theorem lst_nil (r:Nat):lst [] r=r:=rfl
theorem lst_cons (p:Nd) (a:List Nd) (r:Nat):lst (p::a) r=lst a p.1:=rfl
theorem nodes_nil (x y:Nat):nodesHp x [] y=[]:=rfl
theorem nodes_cons (x y:Nat) (p:Nd) (a:List Nd):nodesHp x (p::a) y=(p.1,LinkObj p.2 x (hd a y))::nodesHp p.1 a y:=rfl
theorem lst_append (a b:List Nd) (r:Nat):lst (a++b) r=lst b (lst a r):=by
 induction a generalizing r with
 |nil=>rfl
 |cons p a ih=>exact ih p.1
theorem hd_append (a b:List Nd) (r:Nat):hd (a++b) r=hd a (hd b r):=by
 cases a<;>rfl
theorem nodes_append (prev fin:Nat) (a b:List Nd):nodesHp prev (a++b) fin=nodesHp prev a (hd b fin)++nodesHp (lst a prev) b fin:=by
 induction a generalizing prev with
 |nil=>rfl
 |cons p a ih=>simp only[List.cons_append,nodesHp,ih,hd_append,lst]
theorem nodes_mid (prev fin:Nat) (a b:List Nd) (p:Nd):nodesHp prev (a++p::b) fin=nodesHp prev a p.1++(p.1,LinkObj p.2 (lst a prev) (hd b fin))::nodesHp p.1 b fin:=nodes_append prev fin a (p::b)
theorem ring_next {c:Hp} {a:List Nd} {x y z:Nat}
 (h:Step w0 l w ((rb,RootObj y (hd a x) mb)::(mb,o)::(nodesHp rb a x++c))):
  Step w0 l (w.setCell ⟨lst a rb,2,none⟩ (ptr z)) ((rb,RootObj y (hd a z) mb)::(mb,o)::(nodesHp rb a z++c)):=by
  rcases List.eq_nil_or_concat a with rfl|⟨a,p,rfl⟩
  ·exact h.set 2 (ptr z)
  ·rw[List.concat_eq_append] at h⊢
   rw[nodes_append,hd_append] at h⊢
   rw[lst_append]
   have h2:Step w0 l w (((rb,RootObj y (hd a p.1) mb)::(mb,o)::nodesHp rb a p.1)++(p.1,LinkObj p.2 (lst a rb) x)::c):=by
    simpa[nodes_cons,nodes_nil,hd_cons,hd_nil] using h
   have h3:=h2.setIn 2 (ptr z)
   simpa[nodes_cons,nodes_nil,hd_cons,hd_nil,lst_cons,lst_nil] using h3
theorem ring_ahead {c:Hp} {b:List Nd} {x y z:Nat}
 (h:Step w0 l w ((rb,RootObj (lst b x) y mb)::(mb,o)::(c++nodesHp x b rb))):
  Step w0 l (w.setCell ⟨hd b rb,1,none⟩ (ptr z)) ((rb,RootObj (lst b z) y mb)::(mb,o)::(c++nodesHp z b rb)):=by
  cases b with
  |nil=>exact h.set 1 (ptr z)
  |cons p b=>
   have h2:Step w0 l w (((rb,RootObj (lst b p.1) y mb)::(mb,o)::c)++(p.1,LinkObj p.2 x (hd b rb))::nodesHp p.1 b rb):=by
    simpa[nodes_cons,lst_cons] using h
   have h3:=h2.setIn 1 (ptr z)
   simpa[nodes_cons,lst_cons,hd_cons] using h3
theorem ring_out {a b:List Nd} {p:Nd} (h:Step w0 l w (RecHp rb mb o (a++p::b))):
 Step w0 l ((w.setCell ⟨lst a rb,2,none⟩ (ptr (hd b rb))).setCell ⟨hd b rb,1,none⟩ (ptr (lst a rb))) ((p.1,LinkObj p.2 (lst a rb) (hd b rb))::RecHp rb mb o (a++b)):=by
 have e1:RecHp rb mb o (a++p::b)=(rb,RootObj (lst b p.1) (hd a p.1) mb)::(mb,o)::(nodesHp rb a p.1++((p.1,LinkObj p.2 (lst a rb) (hd b rb))::nodesHp p.1 b rb)):=by
  simp only[RecHp,nodes_mid,lst_append,hd_append,lst_cons,hd_cons]
 rw[e1] at h
 have h2:=ring_next (z:=hd b rb) h
 rw[show nodesHp rb a (hd b rb)++((p.1,LinkObj p.2 (lst a rb) (hd b rb))::nodesHp p.1 b rb)=(nodesHp rb a (hd b rb)++[(p.1,LinkObj p.2 (lst a rb) (hd b rb))])++nodesHp p.1 b rb by simp] at h2
 have h4:=ring_ahead (z:=lst a rb) h2
 refine h4.permR ?_
 have e:RecHp rb mb o (a++b)=(rb,RootObj (lst b (lst a rb)) (hd a (hd b rb)) mb)::(mb,o)::(nodesHp rb a (hd b rb)++nodesHp (lst a rb) b rb):=by
  simp only[RecHp,nodes_append,lst_append,hd_append]
 rw[e]
 refine List.Perm.trans ?_ (List.perm_middle (l₁:=[(rb,_),(mb,o)]))
 refine List.Perm.cons _ (List.Perm.cons _ ?_)
 rw[List.append_assoc]
 exact List.perm_middle
theorem ring_last {ns:List Nd} {b:Nat} {k:ByteArray} {x1 x2:Value} (h:Step w0 l w ((b,.cells #[.string k,x1,x2] 98 (0,0))::RecHp rb mb o ns)):
 Step w0 l ((((w.setCell ⟨b,1,none⟩ (ptr (lst ns rb))).setCell ⟨b,2,none⟩ (ptr rb)).setCell ⟨lst ns rb,2,none⟩ (ptr b)).setCell ⟨rb,1,none⟩ (ptr b)) (RecHp rb mb o (ns++[(b,k)])):=by
 have h1:=(h.set 1 (ptr (lst ns rb))).set 2 (ptr rb)
 have h2:=h1.permR (l2:=(rb,RootObj (lst ns rb) (hd ns rb) mb)::(mb,o)::(nodesHp rb ns rb++[(b,LinkObj k (lst ns rb) rb)]))
  (List.Perm.trans (List.perm_append_comm (l₁:=[_]) (l₂:=(rb,RootObj (lst ns rb) (hd ns rb) mb)::(mb,o)::nodesHp rb ns rb)) (List.Perm.of_eq (by simp)))
 have h3:=ring_next (z:=b) h2
 have h4:=h3.set 1 (ptr b)
 have e:RecHp rb mb o (ns++[(b,k)])=(rb,RootObj b (hd ns b) mb)::(mb,o)::(nodesHp rb ns b++[(b,LinkObj k (lst ns rb) rb)]):=by
  simp only[RecHp,nodes_append,lst_append,hd_append,nodes_cons,nodes_nil,hd_cons,lst_cons,hd_nil,lst_nil]
 rw[e]
 exact h4
abbrev ptr' (b:Nat):Value:=.pointer (some ⟨b,0,none⟩)
structure En where
 b:Nat
 t:Int
 key:ByteArray
variable {es:List En}
abbrev EnObj (e:En) (i:Nat):Obj:=.cells #[.int .i64 e.t,.string e.key,.int .i64 i] 237 (0,0)
def enPtr (e:En):Value:=ptr' e.b
def entHp (i:Nat) (es:List En):Hp:=match es with
 |[]=>[]
 |e::es=>(e.b,EnObj e i)::entHp (i+1) es
theorem entHp_append (i:Nat) (a b:List En):entHp i (a++b)=entHp i a++entHp (i+a.length) b:=by
 induction a generalizing i with
 |nil=>rfl
 |cons e a ih=>simp only[List.cons_append,entHp,ih,List.length_cons,Nat.add_assoc,Nat.add_comm 1 a.length]
theorem keys_ent (i:Nat) (es:List En):keys (entHp i es)=es.map En.b:=by
 induction es generalizing i with
 |nil=>rfl
 |cons e es ih=>simp[entHp,ih]
def enLess (a b:En):Bool:=decide (dueOrder a.t a.key b.t b.key<0)
abbrev ExpObj (rv:Value) (mb:Nat):Obj:=.cells #[rv,.map (some mb)] 106 (0,0)
def HeapHp (xb mb:Nat) (rv:Value) (sl:Hp) (es:List En):Hp:=(xb,ExpObj rv mb)::(sl++entHp 0 es)
structure HeapAt (rv:Value) (sl:Hp) (es:List En):Prop where
 sl:SliceHp 1 230 rv es.length (es.map enPtr) sl
theorem ent_at {r1 r2:Hp} (h:Own w (r1++(entHp 0 es++r2))) (hi:i<es.length):w.heap[(es[i]).b]? =some (EnObj es[i] i):=by
 have e:es=es.take i++es[i]::es.drop (i+1):=by
  rw[<-List.drop_eq_getElem_cons hi,List.take_append_drop]
 have e2:entHp 0 es=entHp 0 (es.take i)++((es[i]).b,EnObj es[i] i)::entHp (i+1) (es.drop (i+1)):=by
  conv=>lhs;rw[e]
  rw[entHp_append]
  have:(es.take i).length=i:=by simp;omega
  rw[this]
  simp[entHp]
 refine h.at_ ((es[i]).b,_) ?_
 rw[e2]
 simp
theorem less_any (g n cap i j:Nat) (x y:En) (w:World) (hi:i<n) (hj:j<n) (hc:n<=cap) (hcap:cap<=maxLen) (ci:w.cell? ⟨g,i,none⟩=some (ptr' x.b)) (cj:w.cell? ⟨g,j,none⟩=some (ptr' y.b))
 (x0:w.cell? ⟨x.b,0,none⟩=some (.int .i64 x.t)) (x1:w.cell? ⟨x.b,1,none⟩=some (.string x.key)) (y0:w.cell? ⟨y.b,0,none⟩=some (.int .i64 y.t)) (y1:w.cell? ⟨y.b,1,none⟩=some (.string y.key)):
  Calls Tryz.prog 325 #[.slice (some ⟨g,0,none⟩) n cap,.int .i64 i,.int .i64 j] w fun e w'=>e= .returned (.bool (enLess x y))/\Step w [] w' []:=by
  have hb:n<=9223372036854775807:=by unfold maxLen at hcap;omega
  clear hcap
  have hord:=hid (order_any x.t y.t x.key y.key)
  have hst:=hid (Step.refl (Own.nil w))
  unfold enLess
  go_enter Tryz.func325,Tryz.ntmps325
  go_wp2_with fail
  go_still_tail 14,(by kernel_rfl)
  go_wp2_with fail
  refine(hord.out _).mono ?_
  rintro e w' ⟨rfl,S1⟩
  replace S1:=hid (hst.out.drew.trans S1)
  go_wp2_with fail
  go_ret
  exact⟨rfl,S1.out⟩
theorem swap_any (g n cap i j:Nat) (x y:Nat) (vx vy:Value) (w:World) (hi:i<n) (hj:j<n) (hij:i<j) (hc:n<=cap) (hcap:cap<=maxLen) (ci:w.cell? ⟨g,i,none⟩=some (ptr' x)) (cj:w.cell? ⟨g,j,none⟩=some (ptr' y))
 (x2:w.cell? ⟨x,2,none⟩=some vx) (y2:w.cell? ⟨y,2,none⟩=some vy) (fi:∀a,w.frozen? ⟨g,a,none⟩=false) (fx:w.frozen? ⟨x,2,none⟩=false) (fy:w.frozen? ⟨y,2,none⟩=false)
 (hgx:g≠x) (hgy:g≠y) (hxy:x≠y):
  Calls Tryz.prog 326 #[.slice (some ⟨g,0,none⟩) n cap,.int .i64 i,.int .i64 j] w fun e w'=>e= .returned (.tuple #[])/\
   w'=((((w.setCell ⟨g,i,none⟩ (ptr' y)).setCell ⟨g,j,none⟩ (ptr' x)).setCell ⟨y,2,none⟩ (.int .i64 i)).setCell ⟨x,2,none⟩ (.int .i64 j)).drew.drew:=by
  have hb:n<=9223372036854775807:=by unfold maxLen at hcap;omega
  clear hcap
  go_enter Tryz.func326,Tryz.ntmps326
  go_wp2_with fail
  go_region
  all_goals go_wp2_with fail
  all_goals go_region
  all_goals go_wp2_with fail
  all_goals go_end0
  all_goals exact⟨rfl,rfl⟩
theorem set_mid {α:Type} (A C:List α) (x v:α):(A++x::C).set A.length v=A++v::C:=by
 induction A with
 |nil=>rfl
 |cons a A ih=>simp[ih]
theorem two_split {α:Type} {es:List α} (hij:i<j) (hj:j<es.length):∃A x B y C,es=A++x::(B++y::C)/\A.length=i/\B.length+i+1=j:=by
 have hi:i<es.length:=by omega
 refine⟨es.take i,es[i],(es.drop (i+1)).take (j - i - 1),es[j],es.drop (j+1),?_,by simp;omega,by simp;omega⟩
 have e1:es=es.take i++es[i]::es.drop (i+1):=by
  rw[<-List.drop_eq_getElem_cons hi,List.take_append_drop]
 have e2:es.drop (i+1)=(es.drop (i+1)).take (j - i - 1)++es[j]::es.drop (j+1):=by
  have hk:j - i - 1<(es.drop (i+1)).length:=by simp;omega
  have e3:(es.drop (i+1))[j - i - 1]=es[j]:=by simp only[List.getElem_drop];congr 1;omega
  have e4:(es.drop (i+1)).drop (j - i - 1+1)=es.drop (j+1):=by rw[List.drop_drop];congr 1;omega
  rw[<-e3,<-e4,<-List.drop_eq_getElem_cons hk,List.take_append_drop]
 rw[<-e2]
 exact e1
def swapE (es:List En) (i j:Nat):List En:=match es[i]?,es[j]? with
 |some x,some y=>(es.set i y).set j x
 |_,_=>es
theorem swapE_split (A B C:List En) (x y:En):swapE (A++x::(B++y::C)) A.length (B.length+A.length+1)=A++y::(B++x::C):=by
 have h1:(A++x::(B++y::C))[A.length]? =some x:=by simp
 have h2:(A++x::(B++y::C))[B.length+A.length+1]? =some y:=by
  rw[List.getElem?_append_right (by omega),show B.length+A.length+1 - A.length=B.length+1 by omega,List.getElem?_cons_succ]
  simp
 simp only[swapE,h1,h2]
 rw[set_mid]
 have:A++y::(B++y::C)=(A++y::B)++y::C:=by simp
 rw[this,show B.length+A.length+1=(A++y::B).length by simp;omega,set_mid]
 simp
theorem swapE_len (es:List En) (i j:Nat):(swapE es i j).length=es.length:=by
 unfold swapE;split<;>simp
theorem swapE_perm (hij:i<j) (hj:j<es.length):(swapE es i j).Perm es:=by
 obtain⟨A,x,B,y,C,rfl,rfl,rfl⟩:=two_split hij hj
 rw[swapE_split]
 refine List.Perm.append_left _ ?_
 refine(List.Perm.cons _ List.perm_middle).trans ?_
 refine(List.Perm.swap _ _ _).trans ?_
 exact List.Perm.cons _ List.perm_middle.symm
theorem swapE_drop {m:Nat} (hij:i<j) (hj:j<m):(swapE es i j).drop m=es.drop m:=by
 unfold swapE
 split
 ·apply List.ext_getElem?
  intro a
  simp only[List.getElem?_drop,List.getElem?_set]
  rw[if_neg (by omega),if_neg (by omega)]
 ·rfl
theorem ent_split (A B C:List En) (x y:En):entHp 0 (A++x::(B++y::C))=entHp 0 A++(x.b,EnObj x A.length)::(entHp (A.length+1) B++(y.b,EnObj y (B.length+A.length+1))::entHp (B.length+A.length+2) C):=by
 rw[entHp_append,Nat.zero_add,entHp,entHp_append,entHp,show A.length+1+B.length=B.length+A.length+1 by omega]
theorem heap_swap {n:Nat} (hS:Step w0 l w (HeapHp xb mb (.slice (some ⟨g,0,none⟩) n cap) sl es++r)) (hat:HeapAt (.slice (some ⟨g,0,none⟩) n cap) sl es) (hij:i<j) (hj:j<es.length):
 Calls Tryz.prog 326 #[.slice (some ⟨g,0,none⟩) n cap,.int .i64 i,.int .i64 j] w fun e w'=>e= .returned (.tuple #[])/\
  ∃sl',HeapAt (.slice (some ⟨g,0,none⟩) n cap) sl' (swapE es i j)/\Step w0 l w' (HeapHp xb mb (.slice (some ⟨g,0,none⟩) n cap) sl' (swapE es i j)++r):=by
 obtain⟨hsl⟩:=hat
 generalize hxs:es.map enPtr=xs at hsl
 generalize hn:es.length=n' at hsl
 cases hsl with
 |laid g n cap xs rest hx hr hnc hc=>
 obtain⟨A,x,B,y,C,rfl,rfl,rfl⟩:=two_split hij hj
 subst hxs
 have hSx:Step w0 l w ((xb,ExpObj (.slice (some ⟨g,0,none⟩) n cap) mb)::(g,.cells (((A++x::(B++y::C)).map enPtr)++rest).toArray 230 (0,0))::
  (entHp 0 A++(x.b,EnObj x A.length)::(entHp (A.length+1) B++(y.b,EnObj y (B.length+A.length+1))::(entHp (B.length+A.length+2) C++r)))):=by
  have:=hS
  rw[HeapHp,ent_split] at this
  simpa using this
 have hown:=hSx.own
 have hg:=hown.tail.head
 have hxo:w.heap[x.b]? =some (EnObj x A.length):=hown.at_ (x.b,EnObj x A.length) (by simp)
 have hyo:w.heap[y.b]? =some (EnObj y (B.length+A.length+1)):=hown.at_ (y.b,EnObj y (B.length+A.length+1)) (by simp)
 have hnd:=hown.nd
 simp only[keys_cons,keys_append,keys_ent,List.nodup_cons,List.mem_cons,List.mem_append,not_or] at hnd
 have hgx:g≠x.b:=hnd.2.1.2.1
 have hgy:g≠y.b:=hnd.2.1.2.2.2.1
 have hxy:x.b≠y.b:=by
  have:=hnd.2.2
  rw[List.nodup_append] at this
  have:=this.2.1
  rw[List.nodup_cons] at this
  intro e
  exact this.1 (by rw[e];simp)
 have ci:=cells_get hg A.length
 have cj:=cells_get hg (B.length+A.length+1)
 have hi1:((((A++x::(B++y::C)).map enPtr)++rest).toArray)[A.length]? =some (ptr' x.b):=by
  simp[enPtr]
 have hj1:((((A++x::(B++y::C)).map enPtr)++rest).toArray)[B.length+A.length+1]? =some (ptr' y.b):=by
  simp only[List.getElem?_toArray,List.map_append,List.map_cons,List.append_assoc,List.cons_append]
  rw[List.getElem?_append_right (by simp;omega)]
  rw[show B.length+A.length+1 - (A.map enPtr).length=(B.map enPtr).length+1 by simp;omega,List.getElem?_cons_succ]
  simp[enPtr]
 rw[hi1] at ci
 rw[hj1] at cj
 have hlen:(A++x::(B++y::C)).length=A.length+1+B.length+1+C.length:=by simp;omega
 have hnn:n=A.length+1+B.length+1+C.length:=by rw[<-hlen,hn]
 refine(swap_any g n cap A.length (B.length+A.length+1) x.b y.b _ _ w (by omega) (by omega) (by omega) hnc hc ci cj (cells_get hxo 2) (cells_get hyo 2) (fun a=>cells_free hg a) (cells_free hxo 2) (cells_free hyo 2) hgx hgy hxy).mono ?_
 rintro e w' ⟨he,rfl⟩
 rw[swapE_split]
 refine⟨he,[(g,.cells (((A++y::(B++x::C)).map enPtr)++rest).toArray 230 (0,0))],⟨?_⟩,?_⟩
 ·have e1:(A++y::(B++x::C)).length=n:=by rw[hnn];simp;omega
  rw[e1]
  exact .laid g n cap _ rest (by rw[List.length_map,e1];omega) hr hnc hc
 ·have h1:=((hSx.set2 A.length (ptr' y.b)).set2 (B.length+A.length+1) (ptr' x.b))
  have ecs:((((A++x::(B++y::C)).map enPtr)++rest).toArray.setIfInBounds A.length (ptr' y.b)).setIfInBounds (B.length+A.length+1) (ptr' x.b)=(((A++y::(B++x::C)).map enPtr)++rest).toArray:=by
   simp only[List.setIfInBounds_toArray,List.map_append,List.map_cons,List.append_assoc,List.cons_append]
   congr 1
   have e1:=set_mid (A.map enPtr) (B.map enPtr++enPtr y::(C.map enPtr++rest)) (enPtr x) (ptr' y.b)
   rw[List.length_map] at e1
   rw[e1]
   have e2:A.map enPtr++ptr' y.b::(B.map enPtr++enPtr y::(C.map enPtr++rest))=(A.map enPtr++ptr' y.b::B.map enPtr)++enPtr y::(C.map enPtr++rest):=by simp
   rw[e2,show B.length+A.length+1=(A.map enPtr++ptr' y.b::B.map enPtr).length by simp;omega,set_mid]
   simp[enPtr]
  rw[ecs] at h1
  have h2:Step w0 l _ (((xb,ExpObj (.slice (some ⟨g,0,none⟩) n cap) mb)::(g,.cells (((A++y::(B++x::C)).map enPtr)++rest).toArray 230 (0,0))::
   (entHp 0 A++(x.b,EnObj x A.length)::entHp (A.length+1) B))++(y.b,EnObj y (B.length+A.length+1))::(entHp (B.length+A.length+2) C++r)):=h1.permR (List.Perm.of_eq (by simp))
  have h3:=h2.setIn 2 (.int .i64 (A.length:Nat))
  have h4:Step w0 l _ (((xb,ExpObj (.slice (some ⟨g,0,none⟩) n cap) mb)::(g,.cells (((A++y::(B++x::C)).map enPtr)++rest).toArray 230 (0,0))::entHp 0 A)++(x.b,EnObj x A.length)::(entHp (A.length+1) B++
   (y.b,EnObj y A.length)::(entHp (B.length+A.length+2) C++r))):=h3.permR (List.Perm.of_eq (by simp))
  have h5:=h4.setIn 2 (.int .i64 ((B.length+A.length+1:Nat):Int))
  refine((h5.drew.drew).permR ?_)
  rw[HeapHp,ent_split]
  simp only[List.cons_append,List.nil_append,List.append_assoc,List.singleton_append]
  refine List.Perm.cons _ (List.Perm.cons _ (List.Perm.append_left _ ?_))
  simp only[List.setIfInBounds_toArray,List.set_cons_succ,List.set_cons_zero]
  refine(List.Perm.cons _ List.perm_middle).trans ?_
  refine(List.Perm.swap _ _ _).trans ?_
  exact List.Perm.cons _ List.perm_middle.symm
theorem heap_less {n:Nat} (hS:Step w0 l w (HeapHp xb mb (.slice (some ⟨g,0,none⟩) n cap) sl es++r)) (hat:HeapAt (.slice (some ⟨g,0,none⟩) n cap) sl es) (hi:i<es.length) (hj:j<es.length):
 Calls Tryz.prog 325 #[.slice (some ⟨g,0,none⟩) n cap,.int .i64 i,.int .i64 j] w fun e w'=>e= .returned (.bool (enLess es[i] es[j]))/\Step w0 l w' (HeapHp xb mb (.slice (some ⟨g,0,none⟩) n cap) sl es++r):=by
 obtain⟨hsl⟩:=hat
 generalize hxs:es.map enPtr=xs at hsl
 generalize hn:es.length=n' at hsl
 cases hsl with
 |laid g n cap xs rest hx hr hnc hc=>
 subst hxs
 have hown:=hS.own
 have hg:w.heap[g]? =some (.cells ((es.map enPtr)++rest).toArray 230 (0,0)):=hown.at_ (g,_) (by simp[HeapHp])
 have hcell:∀a (ha:a<es.length),w.cell? ⟨g,a,none⟩=some (ptr' (es[a]).b):=by
  intro a ha
  rw[cells_get hg]
  simp only[List.getElem?_toArray]
  rw[List.getElem?_append_left (by simpa using ha)]
  simp[enPtr,List.getElem?_eq_getElem ha]
 have hen:∀a (ha:a<es.length),w.heap[(es[a]).b]? =some (EnObj es[a] a):=fun a ha=>ent_at (r1:=[(xb,_),(g,_)]) (r2:=r) (by simpa[HeapHp] using hown) ha
 refine(less_any g n cap i j es[i] es[j] w (by omega) (by omega) hnc hc (hcell i hi) (hcell j hj) (cells_get (hen i hi) 0) (cells_get (hen i hi) 1) (cells_get (hen j hj) 0) (cells_get (hen j hj) 1)).mono ?_
 rintro e w' ⟨he,hs⟩
 exact⟨he,hS.part (a:=[]) (a':=[]) (List.Perm.refl _) hs⟩
theorem run_wrap (x y:String):(Builtin.ssaWrapNilChk_ #[t] t #[.pointer (some a),strVal x,strVal y]).run P w= .ok (.pointer (some a)) w:=rfl
theorem run_method_val {fuel:Nat} {elem:TypeId} {name:String} {m:Method} {i:TypeInfo} {f:FuncId} {v:Value} (hi:P.info? t=some i) (hm:i.methods.find? (·.name==name)=some m) (hp:m.path= #[])
 (hf:m.func=some (f,false)) (hu:P.underlying t=some (.pointer elem)) (hl:(loadVar elem a).run P w= .ok v w):(method (fuel+1) t (.pointer (some a)) name).run P w= .ok (f,v) w:=by
  unfold method
  simp[typeInfo,hi,hm,hp,hf,follow,receiverAt,run_underlying hu,Place.get,run_wrap,asAddr,hl]
theorem run_method_ptr {fuel:Nat} {elem:TypeId} {name:String} {m:Method} {i:TypeInfo} {f:FuncId} (hi:P.info? t=some i) (hm:i.methods.find? (·.name==name)=some m) (hp:m.path= #[])
 (hf:m.func=some (f,true)) (hu:P.underlying t=some (.pointer elem)):(method (fuel+1) t (.pointer (some a)) name).run P w= .ok (f,.pointer (some a)) w:=by
  unfold method
  simp[typeInfo,hi,hm,hp,hf,follow,receiverAt,run_underlying hu,Place.get]
theorem rowMethod (name:String) (f:FuncId) (b:Bool) (h:((Tryz.prog.info? 233).bind fun i=>(i.methods.find? (·.name==name)).map fun m=>(m.path.size,m.func))=some (0,some (f,b))):
 ∃i m,Tryz.prog.info? 233=some i/\i.methods.find? (·.name==name)=some m/\m.path= #[]/\m.func=some (f,b):=by
 cases hi:Tryz.prog.info? 233 with
 |none=>rw[hi] at h;cases h
 |some i=>
  rw[hi] at h
  cases hm:i.methods.find? (·.name==name) with
  |none=>simp[hm] at h
  |some m=>
   simp[hm] at h
   exact⟨i,m,rfl,hm,h.1,h.2⟩
theorem method_less (xb:Nat) (v:Value) (n:Nat) (w:World) (h:w.cell? ⟨xb,0,none⟩=some v):(method (n+1) 233 (.pointer (some ⟨xb,0,none⟩)) "Less").run Tryz.prog w= .ok (325,v) w:=by
 obtain⟨i,m,hi,hm,hp,hf⟩:=rowMethod "Less" 325 false (by kernel_rfl)
 exact run_method_val hi hm hp hf Tryz.underlying233 (by simp[go_sem,h])
theorem method_swap (xb:Nat) (v:Value) (n:Nat) (w:World) (h:w.cell? ⟨xb,0,none⟩=some v):(method (n+1) 233 (.pointer (some ⟨xb,0,none⟩)) "Swap").run Tryz.prog w= .ok (326,v) w:=by
 obtain⟨i,m,hi,hm,hp,hf⟩:=rowMethod "Swap" 326 false (by kernel_rfl)
 exact run_method_val hi hm hp hf Tryz.underlying233 (by simp[go_sem,h])
theorem method_len (xb:Nat) (v:Value) (n:Nat) (w:World) (h:w.cell? ⟨xb,0,none⟩=some v):(method (n+1) 233 (.pointer (some ⟨xb,0,none⟩)) "Len").run Tryz.prog w= .ok (324,v) w:=by
 obtain⟨i,m,hi,hm,hp,hf⟩:=rowMethod "Len" 324 false (by kernel_rfl)
 exact run_method_val hi hm hp hf Tryz.underlying233 (by simp[go_sem,h])
theorem method_push (xb:Nat) (n:Nat) (w:World):(method (n+1) 233 (.pointer (some ⟨xb,0,none⟩)) "Push").run Tryz.prog w= .ok (335,.pointer (some ⟨xb,0,none⟩)) w:=by
 obtain⟨i,m,hi,hm,hp,hf⟩:=rowMethod "Push" 335 true (by kernel_rfl)
 exact run_method_ptr hi hm hp hf Tryz.underlying233
theorem method_pop (xb:Nat) (n:Nat) (w:World):(method (n+1) 233 (.pointer (some ⟨xb,0,none⟩)) "Pop").run Tryz.prog w= .ok (334,.pointer (some ⟨xb,0,none⟩)) w:=by
 obtain⟨i,m,hi,hm,hp,hf⟩:=rowMethod "Pop" 334 true (by kernel_rfl)
 exact run_method_ptr hi hm hp hf Tryz.underlying233
abbrev rowI (xb:Nat):Value:=.iface 233 (.pointer (some ⟨xb,0,none⟩))
theorem up_any {n:Nat} (hS:Step w0 l w (HeapHp xb mb (.slice (some ⟨g,0,none⟩) n cap) sl es++r)) (hat:HeapAt (.slice (some ⟨g,0,none⟩) n cap) sl es) (hj:j<es.length) (hB:es.length<=1099511627776):
 Calls Tryz.prog 208 #[rowI xb,.int .i64 j] w fun e w'=>e= .returned (.tuple #[])/\∃sl' es',(es'.Perm es/\es'.drop (j+1)=es.drop (j+1))/\HeapAt (.slice (some ⟨g,0,none⟩) n cap) sl' es'/\Step w0 l w' (HeapHp xb mb (.slice (some ⟨g,0,none⟩) n cap) sl' es'++r):=by
 have hS':=hid hS
 have hat':=hid hat
 have hml:=method_less xb (.slice (some ⟨g,0,none⟩) n cap)
 have hms:=method_swap xb (.slice (some ⟨g,0,none⟩) n cap)
 clear hS hat
 go_enter Tryz.func208,Tryz.ntmps208
 go_wp2_with fail
 go_loopw [1] (fun c wr=>∃(k:Nat) (sl':Hp) (es':List En),c= .int .i64 k/\k<=j/\Hid (es'.length=es.length)/\Hid (es'.Perm es/\es'.drop (j+1)=es.drop (j+1))/\Hid (HeapAt (.slice (some ⟨g,0,none⟩) n cap) sl' es')/\Hid (Step w0 l wr (HeapHp xb mb (.slice (some ⟨g,0,none⟩) n cap) sl' es'++r))) (fun c _=>(intOf c).toNat)
 case atStart=>exact⟨j,sl,es,rfl,Nat.le_refl _,hid rfl,hid ⟨List.Perm.refl _,rfl⟩,hat',hS'⟩
 case round=>
  obtain⟨k,sl',es',rfl,hk,hlen,hperm,hat2,hS2⟩:=hrel
  have c0:wr.cell? ⟨xb,0,none⟩=some (.slice (some ⟨g,0,none⟩) n cap):=cells_get hS2.out.own.head 0
  by_cases hk0:k=0
  ·subst hk0
   go_wp2_with fail
   go_end0
   exact⟨rfl,sl',es',hperm.out,hat2.out,hS2.out⟩
  ·have hkp:0<k:=by omega
   obtain⟨i,hik,hii⟩:∃i:Nat,i<k/\((k:Int) - 1)/2=(i:Int):=⟨(k - 1)/2,by omega,by omega⟩
   have hbq:((i:Int)==(k:Int))=false:=by rw[beq_eq_false_iff_ne];omega
   have hless:=hid (heap_less hS2.out hat2.out (i:=k) (j:=i) (by rw[hlen.out];omega) (by rw[hlen.out];omega))
   clear hk0
   go_wp2_with fail
   refine hless.out.mono ?_
   rintro e w2 ⟨rfl,S3⟩
   have c0':w2.cell? ⟨xb,0,none⟩=some (.slice (some ⟨g,0,none⟩) n cap):=cells_get S3.own.head 0
   have hswap:=hid (heap_swap S3 hat2.out hik (by rw[hlen.out];omega))
   replace S3:=hid S3
   clear hless c0
   cases hlt:enLess (es'[k]'(by rw[hlen.out];omega)) (es'[i]'(by rw[hlen.out];omega)) with
   |true=>
    go_wp2_with fail
    refine hswap.out.mono ?_
    rintro e w3 ⟨rfl,sl3,hat3,S4⟩
    replace hat3:=hid hat3
    replace S4:=hid S4
    go_wp2_with fail
    go_roundw
    case rel=>exact⟨i,sl3,swapE es' i k,rfl,by omega,hid (by rw[swapE_len];exact hlen.out),hid ⟨(swapE_perm hik (by rw[hlen.out];omega)).trans hperm.out.1,(swapE_drop hik (by omega)).trans hperm.out.2⟩,hat3,S4⟩
    case measure=>simp[intOf];omega
   |false=>
    go_wp2_with fail
    go_end0
    exact⟨rfl,sl',es',hperm.out,hat2.out,S3.out⟩
def SomeBool (e:Ending):Prop:=∃b,e= .returned (.bool b)
theorem down_any {n m:Nat} (hS:Step w0 l w (HeapHp xb mb (.slice (some ⟨g,0,none⟩) n cap) sl es++r)) (hat:HeapAt (.slice (some ⟨g,0,none⟩) n cap) sl es) (hi:i<=m) (hm:m<=es.length) (hB:es.length<=1099511627776):
 Calls Tryz.prog 207 #[rowI xb,.int .i64 i,.int .i64 m] w fun e w'=>SomeBool e/\∃sl' es',(es'.Perm es/\es'.drop m=es.drop m)/\HeapAt (.slice (some ⟨g,0,none⟩) n cap) sl' es'/\Step w0 l w' (HeapHp xb mb (.slice (some ⟨g,0,none⟩) n cap) sl' es'++r):=by
 have hS':=hid hS
 have hat':=hid hat
 have hml:=method_less xb (.slice (some ⟨g,0,none⟩) n cap)
 have hms:=method_swap xb (.slice (some ⟨g,0,none⟩) n cap)
 clear hS hat
 go_enter Tryz.func207,Tryz.ntmps207
 go_wp2_with fail
 go_loopw [7] (fun c wr=>∃(k:Nat) (sl':Hp) (es':List En),c= .int .i64 k/\k<=m/\Hid (es'.length=es.length)/\Hid (es'.Perm es/\es'.drop m=es.drop m)/\Hid (HeapAt (.slice (some ⟨g,0,none⟩) n cap) sl' es')/\Hid (Step w0 l wr (HeapHp xb mb (.slice (some ⟨g,0,none⟩) n cap) sl' es'++r))) (fun c _=>m - (intOf c).toNat)
 case atStart=>exact⟨i,sl,es,rfl,hi,hid rfl,hid ⟨List.Perm.refl _,rfl⟩,hat',hS'⟩
 case round=>
  obtain⟨k,sl',es',rfl,hk,hlen,hperm,hat2,hS2⟩:=hrel
  have c0:wr.cell? ⟨xb,0,none⟩=some (.slice (some ⟨g,0,none⟩) n cap):=cells_get hS2.out.own.head 0
  by_cases h1:2*k+1<m
  ·by_cases h2:2*k+2<m
   ·have hless:=hid (heap_less hS2.out hat2.out (i:=2*k+2) (j:=2*k+1) (by rw[hlen.out];omega) (by rw[hlen.out];omega))
    have ecast:((2*k+2:Nat):Int)=2*(k:Int)+1+1:=by omega
    have ecast1:((2*k+1:Nat):Int)=2*(k:Int)+1:=by omega
    rw[ecast,ecast1] at hless
    clear ecast ecast1
    go_wp2_with fail
    refine hless.out.mono ?_
    rintro e w3 ⟨rfl,S3⟩
    replace S3:=hid S3
    clear hless c0
    cases hb:enLess (es'[2*k+2]'(by rw[hlen.out];omega)) (es'[2*k+1]'(by rw[hlen.out];omega)) with
    |true=>
     have c0b:w3.cell? ⟨xb,0,none⟩=some (.slice (some ⟨g,0,none⟩) n cap):=cells_get S3.out.own.head 0
     have hless2:=hid (heap_less S3.out hat2.out (i:=2*k+2) (j:=k) (by rw[hlen.out];omega) (by rw[hlen.out];omega))
     have ecj:((2*k+2:Nat):Int)=2*(k:Int)+1+1:=by omega
     rw[ecj] at hless2
     go_wp2_with fail
     refine hless2.out.mono ?_
     rintro e w4 ⟨rfl,S4⟩
     have c0c:w4.cell? ⟨xb,0,none⟩=some (.slice (some ⟨g,0,none⟩) n cap):=cells_get S4.own.head 0
     have hswap:=hid (heap_swap S4 hat2.out (i:=k) (j:=2*k+2) (by omega) (by rw[hlen.out];omega))
     rw[ecj] at hswap
     clear ecj
     replace S4:=hid S4
     clear hless2 c0b
     cases hlt:enLess (es'[2*k+2]'(by rw[hlen.out];omega)) (es'[k]'(by rw[hlen.out];omega)) with
     |true=>
      go_wp2_with fail
      refine hswap.out.mono ?_
      rintro e w5 ⟨rfl,sl5,hat5,S5⟩
      replace hat5:=hid hat5
      replace S5:=hid S5
      go_wp2_with fail
      go_roundw
      case rel=>exact⟨2*k+2,sl5,swapE es' k (2*k+2),by go_num,by omega,hid (by rw[swapE_len];exact hlen.out),hid ⟨(swapE_perm (by omega) (by rw[hlen.out];omega)).trans hperm.out.1,(swapE_drop (by omega) (by omega)).trans hperm.out.2⟩,hat5,S5⟩
      case measure=>simp[intOf];omega
     |false=>
      go_wp2_with fail
      go_ret
      exact⟨⟨_,rfl⟩,sl',es',hperm.out,hat2.out,S4.out⟩
    |false=>
     have c0b:w3.cell? ⟨xb,0,none⟩=some (.slice (some ⟨g,0,none⟩) n cap):=cells_get S3.out.own.head 0
     have hless2:=hid (heap_less S3.out hat2.out (i:=2*k+1) (j:=k) (by rw[hlen.out];omega) (by rw[hlen.out];omega))
     have ecj:((2*k+1:Nat):Int)=2*(k:Int)+1:=by omega
     rw[ecj] at hless2
     go_wp2_with fail
     refine hless2.out.mono ?_
     rintro e w4 ⟨rfl,S4⟩
     have c0c:w4.cell? ⟨xb,0,none⟩=some (.slice (some ⟨g,0,none⟩) n cap):=cells_get S4.own.head 0
     have hswap:=hid (heap_swap S4 hat2.out (i:=k) (j:=2*k+1) (by omega) (by rw[hlen.out];omega))
     rw[ecj] at hswap
     clear ecj
     replace S4:=hid S4
     clear hless2 c0b
     cases hlt:enLess (es'[2*k+1]'(by rw[hlen.out];omega)) (es'[k]'(by rw[hlen.out];omega)) with
     |true=>
      go_wp2_with fail
      refine hswap.out.mono ?_
      rintro e w5 ⟨rfl,sl5,hat5,S5⟩
      replace hat5:=hid hat5
      replace S5:=hid S5
      go_wp2_with fail
      go_roundw
      case rel=>exact⟨2*k+1,sl5,swapE es' k (2*k+1),by go_num,by omega,hid (by rw[swapE_len];exact hlen.out),hid ⟨(swapE_perm (by omega) (by rw[hlen.out];omega)).trans hperm.out.1,(swapE_drop (by omega) (by omega)).trans hperm.out.2⟩,hat5,S5⟩
      case measure=>simp[intOf];omega
     |false=>
      go_wp2_with fail
      go_ret
      exact⟨⟨_,rfl⟩,sl',es',hperm.out,hat2.out,S4.out⟩
   ·clear c0
    have c0b:wr.cell? ⟨xb,0,none⟩=some (.slice (some ⟨g,0,none⟩) n cap):=cells_get hS2.out.own.head 0
    have hless2:=hid (heap_less hS2.out hat2.out (i:=2*k+1) (j:=k) (by rw[hlen.out];omega) (by rw[hlen.out];omega))
    have ecj:((2*k+1:Nat):Int)=2*(k:Int)+1:=by omega
    rw[ecj] at hless2
    go_wp2_with fail
    refine hless2.out.mono ?_
    rintro e w4 ⟨rfl,S4⟩
    have c0c:w4.cell? ⟨xb,0,none⟩=some (.slice (some ⟨g,0,none⟩) n cap):=cells_get S4.own.head 0
    have hswap:=hid (heap_swap S4 hat2.out (i:=k) (j:=2*k+1) (by omega) (by rw[hlen.out];omega))
    rw[ecj] at hswap
    clear ecj
    replace S4:=hid S4
    clear hless2 c0b
    cases hlt:enLess (es'[2*k+1]'(by rw[hlen.out];omega)) (es'[k]'(by rw[hlen.out];omega)) with
    |true=>
     go_wp2_with fail
     refine hswap.out.mono ?_
     rintro e w5 ⟨rfl,sl5,hat5,S5⟩
     replace hat5:=hid hat5
     replace S5:=hid S5
     go_wp2_with fail
     go_roundw
     case rel=>exact⟨2*k+1,sl5,swapE es' k (2*k+1),by go_num,by omega,hid (by rw[swapE_len];exact hlen.out),hid ⟨(swapE_perm (by omega) (by rw[hlen.out];omega)).trans hperm.out.1,(swapE_drop (by omega) (by omega)).trans hperm.out.2⟩,hat5,S5⟩
     case measure=>simp[intOf];omega
    |false=>
     go_wp2_with fail
     go_ret
     exact⟨⟨_,rfl⟩,sl',es',hperm.out,hat2.out,S4.out⟩
  ·go_wp2_with fail
   go_ret
   exact⟨⟨_,rfl⟩,sl',es',hperm.out,hat2.out,hS2.out⟩
theorem entryPtrInfo:(Tryz.prog.info? 230).map (fun i=>(i.zero,i.size,i.bytes))=some (some (.pointer none),1,8):=by kernel_rfl
theorem SliceHp.shape {k:Nat} {T:TypeId} {v:Value} {n:Nat} {xs:List Value} (h:SliceHp k T v n xs l):∃a c,v= .slice a n c:=by
 cases h with
 |nil=>exact⟨_,_,rfl⟩
 |laid g n cap xs rest hx hr hn hc=>exact⟨_,_,rfl⟩
theorem HeapAt.rv {rv:Value} (h:HeapAt rv sl es):(es=[]/\∃a c,rv= .slice a 0 c)\/∃g cap,rv= .slice (some ⟨g,0,none⟩) es.length cap/\es.length<=cap/\cap<=maxLen:=by
 obtain⟨hsl⟩:=h
 generalize es.map enPtr=xs at hsl
 generalize hn:es.length=n at hsl
 cases hsl with
 |nil=>exact .inl ⟨List.eq_nil_of_length_eq_zero hn,_,_,rfl⟩
 |laid g n cap xs rest hx hr hnc hc=>exact .inr ⟨g,cap,rfl,hnc,hc⟩
theorem HeapAt.shape {rv:Value} (h:HeapAt rv sl es):∃a c,rv= .slice a es.length c:=by
 rcases h.rv with⟨rfl,a,c,hr⟩|⟨g,cap,hr,_⟩
 ·exact⟨a,c,hr⟩
 ·exact⟨_,_,hr⟩
theorem push_any {eb:Nat} {t:Int} {key:ByteArray} {x:Value} {rv:Value}
 (hS:Step w0 l w ((eb,.cells #[.int .i64 t,.string key,x] 237 (0,0))::(HeapHp xb mb rv sl es++r))) (hat:HeapAt rv sl es) (hB:es.length<=1099511627776):
  Calls Tryz.prog 335 #[.pointer (some ⟨xb,0,none⟩),.iface 230 (ptr' eb)] w fun e w'=>e= .returned (.tuple #[])/\
   ∃rv' sl',HeapAt rv' sl' (es++[⟨eb,t,key⟩])/\Step w0 l w' (HeapHp xb mb rv' sl' (es++[⟨eb,t,key⟩])++r):=by
  obtain⟨a,c,rfl⟩:=hat.shape
  have hown:=hS.own
  have he2:w.cell? ⟨eb,2,none⟩=some x:=cells_get hown.head 2
  have hf2:w.frozen? ⟨eb,2,none⟩=false:=cells_free hown.head 2
  have c0:w.cell? ⟨xb,0,none⟩=some (.slice a es.length c):=cells_get hown.tail.head 0
  have f0:w.frozen? ⟨xb,0,none⟩=false:=cells_free hown.tail.head 0
  have hxlt:=block_lt hown.tail.head
  have helt:=block_lt hown.head
  have hne:eb≠xb:=by have:=hown.nd;simp[HeapHp] at this;exact this.1.1
  have S1:=(hS.set 2 (.int .i64 es.length)).alloc (.cells #[ptr' eb] 230)
  have hsz:(w.setCell ⟨eb,2,none⟩ (.int .i64 es.length)).heap.size=w.heap.size:=by simp
  rw[hsz] at S1
  have hnew:=S1.own.head
  have S2:=S1.permR (l2:=sl++((w.heap.size,.cells #[ptr' eb] 230)::(xb,ExpObj (.slice a es.length c) mb)::(eb,.cells #[.int .i64 t,.string key,.int .i64 es.length] 237 (0,0))::(entHp 0 es++r))) (by
   simp only[HeapHp,List.cons_append,List.append_assoc]
   refine List.Perm.trans (List.Perm.cons _ (List.Perm.swap _ _ _)) ?_
   exact List.perm_append_comm_assoc [_,_,_] sl _)
  obtain⟨hsl⟩:=hat
  obtain⟨v',w2,sl',hrun,hsl',S3,_⟩:=run_append (P:=Tryz.prog) (ty:=104) Tryz.underlying104 Tryz.underlying104 entryPtrInfo rfl (by decide) S2 hsl
   ⟨w.heap.size,0,none⟩ 1 1 [ptr' eb] rfl (by
    intro j u hu
    obtain rfl:j=0:=by have:=(List.getElem?_eq_some_iff.1 hu).1;simp at this;exact this
    simp only[List.getElem?_cons_zero,Option.some.injEq] at hu
    subst hu
    exact cells_get hnew 0) (by intro u hu;simp at hu;subst hu;rfl) (by decide) (by omega) (by unfold maxLen;omega)
  obtain⟨a',c',rfl⟩:=hsl'.shape
  have hlt2:∀b,b∈keys ((w.heap.size,Obj.cells #[ptr' eb] 230)::(xb,ExpObj (.slice a es.length c) mb)::(eb,Obj.cells #[.int .i64 t,.string key,.int .i64 es.length] 237 (0,0))::(entHp 0 es++r))->b<w2.heap.size:=fun b hb=>S3.own.lt (by rw[keys_append];exact List.mem_append_right _ hb)
  have hx2:w2.heap[xb]? =some (ExpObj (.slice a es.length c) mb):=S3.own.right.tail.head
  have d0:w2.cell? ⟨xb,0,none⟩=some (.slice a es.length c):=cells_get hx2 0
  have g0:w2.frozen? ⟨xb,0,none⟩=false:=cells_free hx2 0
  have hfin:Hid (∀W,W=w2.setCell ⟨xb,0,none⟩ (.slice a' (es.length+1) c')->∃rv' sl',HeapAt rv' sl' (es++[⟨eb,t,key⟩])/\Step w0 l W (HeapHp xb mb rv' sl' (es++[⟨eb,t,key⟩])++r)):=by
   rintro W rfl
   refine⟨.slice a' (es.length+1) c',sl',⟨by simpa[enPtr] using hsl'⟩,?_⟩
   have h1:=(S3.permR (l2:=(xb,ExpObj (.slice a es.length c) mb)::(sl'++((w.heap.size,.cells #[ptr' eb] 230)::(eb,.cells #[.int .i64 t,.string key,.int .i64 es.length] 237 (0,0))::(entHp 0 es++r)))) (by
    refine List.Perm.trans (List.Perm.append_left _ (List.Perm.swap _ _ _)) ?_
    exact List.perm_middle)).set 0 (.slice a' (es.length+1) c')
   have h2:=h1.less (l2:=(xb,ExpObj (.slice a' (es.length+1) c') mb)::(sl'++((eb,.cells #[.int .i64 t,.string key,.int .i64 es.length] 237 (0,0))::(entHp 0 es++r)))) (List.Sublist.cons_cons _ (List.Sublist.append (List.Sublist.refl _) (List.sublist_cons_self _ _)))
   refine h2.permR ?_
   rw[HeapHp,entHp_append]
   simp only[entHp,Nat.zero_add,List.cons_append,List.append_assoc,List.nil_append]
   exact List.Perm.cons _ (List.Perm.append_left _ List.perm_middle.symm)
  clear S1 S2 S3 hsl hsl' hlt2 hx2 hown hnew hS
  have hta:∀w,(Instr.typeAssert (.iface 230 (ptr' eb)) 20 230 false).run Tryz.prog w= .ok (ptr' eb) w:=fun _=>by kernel_rfl
  go_enter Tryz.func335,Tryz.ntmps335
  replace hrun:=hid hrun
  go_wp2_with (at_builtin;refine wpList_append_run rfl _ _ _ _ rfl _ _ rfl rfl hrun.out ?_)
  go_end0
  exact⟨rfl,hfin.out _ rfl⟩
theorem pop_any {n:Nat} {e:En}
 (hS:Step w0 l w (HeapHp xb mb (.slice (some ⟨g,0,none⟩) n cap) sl (es++[e])++r)) (hat:HeapAt (.slice (some ⟨g,0,none⟩) n cap) sl (es++[e])) (hB:es.length<1099511627776):
  Calls Tryz.prog 334 #[.pointer (some ⟨xb,0,none⟩)] w fun en w'=>en= .returned (.iface 230 (ptr' e.b))/\
   ∃rv' sl',HeapAt rv' sl' es/\Step w0 l w' ((e.b,EnObj e es.length)::(HeapHp xb mb rv' sl' es++r)):=by
  obtain⟨hsl⟩:=hat
  generalize hxs:(es++[e]).map enPtr=xs at hsl
  generalize hn:(es++[e]).length=n' at hsl
  cases hsl with
  |laid g n cap xs rest hx hr hnc hc=>
  subst hxs
  have hn1:n=es.length+1:=by rw[<-hn];simp
  subst hn1
  have hown:=hS.own
  have c0:w.cell? ⟨xb,0,none⟩=some (.slice (some ⟨g,0,none⟩) (es.length+1) cap):=cells_get hown.head 0
  have f0:w.frozen? ⟨xb,0,none⟩=false:=cells_free hown.head 0
  have hg:w.heap[g]? =some (.cells ((es++[e]).map enPtr++rest).toArray 230 (0,0)):=hown.at_ (g,_) (by simp[HeapHp])
  have ce:w.cell? ⟨g,es.length,none⟩=some (ptr' e.b):=by
   rw[cells_get hg]
   simp[enPtr]
  have hcb:cap<=9223372036854775807:=by unfold maxLen at hc;omega
  have hfin:Hid (∀W,W=w.setCell ⟨xb,0,none⟩ (.slice (some ⟨g,0,none⟩) es.length cap)->∃rv' sl',HeapAt rv' sl' es/\Step w0 l W ((e.b,EnObj e es.length)::(HeapHp xb mb rv' sl' es++r))):=by
   rintro W rfl
   refine⟨.slice (some ⟨g,0,none⟩) es.length cap,[(g,.cells ((es++[e]).map enPtr++rest).toArray 230 (0,0))],⟨?_⟩,?_⟩
   ·have:=SliceHp.laid (k:=1) (T:=230) g es.length cap (es.map enPtr) (enPtr e::rest) (by simp) (by simp at hr⊢;omega) (by omega) hc
    simpa using this
   ·have hS2:=hS
    rw[HeapHp,entHp_append] at hS2
    simp only[entHp,Nat.zero_add,List.cons_append,List.append_assoc,List.nil_append] at hS2
    have h1:=Step.set hS2 0 (.slice (some ⟨g,0,none⟩) es.length cap)
    refine h1.permR ?_
    simp only[HeapHp,List.cons_append,List.append_assoc,List.nil_append]
    exact List.perm_middle (l₁:=(xb,_)::(g,_)::entHp 0 es)
  clear hS hown hg hx hr hn hc
  go_enter Tryz.func334,Tryz.ntmps334
  go_wp2_with fail
  go_ret
  exact⟨rfl,hfin.out _ rfl⟩
end Go.Proofs.YtlbjfafbahphgaaGreatDoor
