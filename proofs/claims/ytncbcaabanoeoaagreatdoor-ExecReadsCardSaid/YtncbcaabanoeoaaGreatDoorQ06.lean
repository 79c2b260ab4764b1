/-
recent: keys in the order of their use, as a ring of links with a map: New, Touch, Drop, Oldest.
-/
import Derived.Test.YtncbcaabanoeoaaGreatDoorQ05
set_option linter.unusedVariables false
set_option linter.unusedSimpArgs false
set_option maxRecDepth 100000
set_option maxHeartbeats 8000000
namespace Go.Proofs.YtncbcaabanoeoaaGreatDoor
open Go Go.RowKit
variable {w0 w:World}{l r sl:Hp}{rb mb i j xb g cap:Nat}{o:Obj}{a:Addr}{P:Program}{t:TypeId}
abbrev Nd:=Nat×ByteArray
def hd (ns:List Nd) (r:Nat):Nat:=match ns with
 |[]=>r
 |p::_=>p.1
def lst (ns:List Nd) (r:Nat):Nat:=match ns with
 |[]=>r
 |p::ns=>lst ns p.1
abbrev Jtx (k:ByteArray) (a n:Nat):Array Value:=#[.string k,ptr a,ptr n]
abbrev J1k (k:ByteArray) (a n:Nat):Obj:=.cells (Jtx k a n) 97 (0,0)
def Kw (prev:Nat) (ns:List Nd) (fin:Nat):Hp:=match ns with
 |[]=>[]
 |p::ns=>(p.1,J1k p.2 prev (hd ns fin))::Kw p.1 ns fin
abbrev Juq (a n mb:Nat):Array Value:=#[.string ByteArray.empty,ptr a,ptr n,.map (some mb)]
abbrev J28 (a n mb:Nat):Obj:=.cells (Juq a n mb) 100 (0,0)
def J19 (rb mb:Nat) (o:Obj) (ns:List Nd):Hp:=(rb,J28 (lst ns rb) (hd ns rb) mb)::(mb,o)::Kw rb ns rb
def J85 (p:Nd):ByteArray×Value:=(p.2,ptr p.1)
def Ko (l:Hp) (rb:Nat) (ks:List ByteArray):Prop:=
 ∃mb o ns m,l=J19 rb mb o ns/\ks=ns.map Prod.snd/\J2a o m/\m.Perm (ns.map J85)/\ks.Nodup
theorem Je4 (r:Nat):hd [] r=r:=rfl
theorem J72 (p:Nd) (a:List Nd) (r:Nat):hd (p::a) r=p.1:=rfl
theorem Jot (r:Nat):lst [] r=r:=rfl
theorem J59 (p:Nd) (a:List Nd) (r:Nat):lst (p::a) r=lst a p.1:=rfl
theorem Jbe (x y:Nat):Kw x [] y=[]:=rfl
theorem J45 (x y:Nat) (p:Nd) (a:List Nd):Kw x (p::a) y=(p.1,J1k p.2 x (hd a y))::Kw p.1 a y:=rfl
theorem J74 (a b:List Nd) (r:Nat):lst (a++b) r=lst b (lst a r):=by
 induction a generalizing r with
 |nil=>rfl
 |cons p a ih=>exact ih p.1
theorem J6e (a b:List Nd) (r:Nat):hd (a++b) r=hd a (hd b r):=by
 cases a<;>rfl
theorem J4o (prev fin:Nat) (a b:List Nd):Kw prev (a++b) fin=Kw prev a (hd b fin)++Kw (lst a prev) b fin:=by
 induction a generalizing prev with
 |nil=>rfl
 |cons p a ih=>simp only[List.cons_append,Kw,ih,J6e,lst]
theorem Jgb (prev fin:Nat) (a b:List Nd) (p:Nd):Kw prev (a++p::b) fin=Kw prev a p.1++(p.1,J1k p.2 (lst a prev) (hd b fin))::Kw p.1 b fin:=J4o prev fin a (p::b)
theorem Jgf {c:Hp} {a:List Nd} {x y z:Nat}
 (h:J3 w0 l w ((rb,J28 y (hd a x) mb)::(mb,o)::(Kw rb a x++c))):
  J3 w0 l (w.setCell ⟨lst a rb,2,none⟩ (ptr z)) ((rb,J28 y (hd a z) mb)::(mb,o)::(Kw rb a z++c)):=by
  rcases List.eq_nil_or_concat a with rfl|⟨a,p,rfl⟩
  ·exact h.set 2 (ptr z)
  ·rw[List.concat_eq_append] at h⊢
   rw[J4o,J6e] at h⊢;rw[J74];have h2:J3 w0 l w (((rb,J28 y (hd a p.1) mb)::(mb,o)::Kw rb a p.1)++(p.1,J1k p.2 (lst a rb) x)::c):=by
    simpa[J45,Jbe,J72,Je4] using h
   have h3:=h2.setIn 2 (ptr z);simpa[J45,Jbe,J72,Je4,J59,Jot] using h3
theorem Jn9 {c:Hp} {b:List Nd} {x y z:Nat}
 (h:J3 w0 l w ((rb,J28 (lst b x) y mb)::(mb,o)::(c++Kw x b rb))):
  J3 w0 l (w.setCell ⟨hd b rb,1,none⟩ (ptr z)) ((rb,J28 (lst b z) y mb)::(mb,o)::(c++Kw z b rb)):=by
  cases b with
  |nil=>exact h.set 1 (ptr z)
  |cons p b=>
   have h2:J3 w0 l w (((rb,J28 (lst b p.1) y mb)::(mb,o)::c)++(p.1,J1k p.2 x (hd b rb))::Kw p.1 b rb):=by
    simpa[J45,J59] using h
   have h3:=h2.setIn 1 (ptr z);simpa[J45,J59,J72] using h3
theorem Jul {a b:List Nd} {p:Nd} (h:J3 w0 l w (J19 rb mb o (a++p::b))):
 J3 w0 l ((w.setCell ⟨lst a rb,2,none⟩ (ptr (hd b rb))).setCell ⟨hd b rb,1,none⟩ (ptr (lst a rb))) ((p.1,J1k p.2 (lst a rb) (hd b rb))::J19 rb mb o (a++b)):=by
 have e1:J19 rb mb o (a++p::b)=(rb,J28 (lst b p.1) (hd a p.1) mb)::(mb,o)::(Kw rb a p.1++((p.1,J1k p.2 (lst a rb) (hd b rb))::Kw p.1 b rb)):=by
  simp only[J19,Jgb,J74,J6e,J59,J72]
 rw[e1] at h;have h2:=Jgf (z:=hd b rb) h;rw[show Kw rb a (hd b rb)++((p.1,J1k p.2 (lst a rb) (hd b rb))::Kw p.1 b rb)=(Kw rb a (hd b rb)++[(p.1,J1k p.2 (lst a rb) (hd b rb))])++Kw p.1 b rb by simp] at h2
 have h4:=Jn9 (z:=lst a rb) h2;refine h4.permR ?_;have e:J19 rb mb o (a++b)=(rb,J28 (lst b (lst a rb)) (hd a (hd b rb)) mb)::(mb,o)::(Kw rb a (hd b rb)++Kw (lst a rb) b rb):=by
  simp only[J19,J4o,J74,J6e]
 rw[e];refine List.Perm.trans ?_ (List.perm_middle (l₁:=[(rb,_),(mb,o)]));refine List.Perm.cons _ (List.Perm.cons _ ?_);rw[List.append_assoc];exact List.perm_middle
theorem Jro {ns:List Nd} {b:Nat} {k:ByteArray} {x1 x2:Value} (h:J3 w0 l w ((b,.cells #[.string k,x1,x2] 97 (0,0))::J19 rb mb o ns)):
 J3 w0 l ((((w.setCell ⟨b,1,none⟩ (ptr (lst ns rb))).setCell ⟨b,2,none⟩ (ptr rb)).setCell ⟨lst ns rb,2,none⟩ (ptr b)).setCell ⟨rb,1,none⟩ (ptr b)) (J19 rb mb o (ns++[(b,k)])):=by
 have h1:=(h.set 1 (ptr (lst ns rb))).set 2 (ptr rb);have h2:=h1.permR (l2:=(rb,J28 (lst ns rb) (hd ns rb) mb)::(mb,o)::(Kw rb ns rb++[(b,J1k k (lst ns rb) rb)]))
  (List.Perm.trans (List.perm_append_comm (l₁:=[_]) (l₂:=(rb,J28 (lst ns rb) (hd ns rb) mb)::(mb,o)::Kw rb ns rb)) (List.Perm.of_eq (by simp)))
 have h3:=Jgf (z:=b) h2;have h4:=h3.set 1 (ptr b);have e:J19 rb mb o (ns++[(b,k)])=(rb,J28 b (hd ns b) mb)::(mb,o)::(Kw rb ns b++[(b,J1k k (lst ns rb) rb)]):=by
  simp only[J19,J4o,J74,J6e,J45,Jbe,J72,J59,Je4,Jot]
 rw[e];exact h4
abbrev J2y (b:Nat):Value:=.pointer (some ⟨b,0,none⟩)
structure En where
 b:Nat
 t:Int
 key:ByteArray
variable {es:List En}
abbrev J25 (e:En) (i:Nat):Obj:=.cells #[.int .i64 e.t,.string e.key,.int .i64 i] 236 (0,0)
def J0j (e:En):Value:=J2y e.b
def J02 (i:Nat) (es:List En):Hp:=match es with
 |[]=>[]
 |e::es=>(e.b,J25 e i)::J02 (i+1) es
theorem J2b (i:Nat) (a b:List En):J02 i (a++b)=J02 i a++J02 (i+a.length) b:=by
 induction a generalizing i with
 |nil=>rfl
 |cons e a ih=>simp only[List.cons_append,J02,ih,List.length_cons,Nat.add_assoc,Nat.add_comm 1 a.length]
theorem Jto (i:Nat) (es:List En):keys (J02 i es)=es.map En.b:=by
 induction es generalizing i with
 |nil=>rfl
 |cons e es ih=>simp[J02,ih]
def J7q (a b:En):Bool:=decide (Jdw a.t a.key b.t b.key<0)
abbrev J27 (rv:Value) (mb:Nat):Obj:=.cells #[rv,.map (some mb)] 105 (0,0)
def K9 (xb mb:Nat) (rv:Value) (sl:Hp) (es:List En):Hp:=(xb,J27 rv mb)::(sl++J02 0 es)
structure J0r (rv:Value) (sl:Hp) (es:List En):Prop where
 sl:SliceHp 1 229 rv es.length (es.map J0j) sl
theorem Jdy {r1 r2:Hp} (h:Own w (r1++(J02 0 es++r2))) (hi:i<es.length):w.heap[(es[i]).b]? =some (J25 es[i] i):=by
 have e:es=es.take i++es[i]::es.drop (i+1):=by
  rw[<-List.drop_eq_getElem_cons hi,List.take_append_drop]
 have e2:J02 0 es=J02 0 (es.take i)++((es[i]).b,J25 es[i] i)::J02 (i+1) (es.drop (i+1)):=by
  conv=>lhs;rw[e]
  rw[J2b];have:(es.take i).length=i:=by simp;omega
  rw[this];simp[J02]
 refine h.at_ ((es[i]).b,_) ?_;rw[e2];simp
theorem Jtu (g n cap i j:Nat) (x y:En) (w:World) (hi:i<n) (hj:j<n) (hc:n<=cap) (hcap:cap<=maxLen) (ci:w.cell? ⟨g,i,none⟩=some (J2y x.b)) (cj:w.cell? ⟨g,j,none⟩=some (J2y y.b))
 (x0:w.cell? ⟨x.b,0,none⟩=some (.int .i64 x.t)) (x1:w.cell? ⟨x.b,1,none⟩=some (.string x.key)) (y0:w.cell? ⟨y.b,0,none⟩=some (.int .i64 y.t)) (y1:w.cell? ⟨y.b,1,none⟩=some (.string y.key)):
  Calls Tryz.prog 324 #[.slice (some ⟨g,0,none⟩) n cap,.int .i64 i,.int .i64 j] w fun e w'=>e= .returned (.bool (J7q x y))/\J3 w [] w' []:=by
  have hb:n<=9223372036854775807:=by unfold maxLen at hcap;omega
  clear hcap;have hord:=hid (Jrd x.t y.t x.key y.key);have hst:=hid (J3.refl (Own.nil w));unfold J7q;go_enter Tryz.func324,Tryz.ntmps324;go_wp2_with fail;go_still_tail 14,(by kernel_rfl)
  go_wp2_with fail;refine(hord.out _).mono ?_
  rintro e w' ⟨rfl,S1⟩;replace S1:=hid (hst.out.drew.trans S1);go_wp2_with fail;go_ret;exact⟨rfl,S1.out⟩
theorem Jvb (g n cap i j:Nat) (x y:Nat) (vx vy:Value) (w:World) (hi:i<n) (hj:j<n) (hij:i<j) (hc:n<=cap) (hcap:cap<=maxLen) (ci:w.cell? ⟨g,i,none⟩=some (J2y x)) (cj:w.cell? ⟨g,j,none⟩=some (J2y y))
 (x2:w.cell? ⟨x,2,none⟩=some vx) (y2:w.cell? ⟨y,2,none⟩=some vy) (fi:∀a,w.frozen? ⟨g,a,none⟩=false) (fx:w.frozen? ⟨x,2,none⟩=false) (fy:w.frozen? ⟨y,2,none⟩=false)
 (hgx:g≠x) (hgy:g≠y) (hxy:x≠y):
  Calls Tryz.prog 325 #[.slice (some ⟨g,0,none⟩) n cap,.int .i64 i,.int .i64 j] w fun e w'=>e= .returned (.tuple #[])/\
   w'=((((w.setCell ⟨g,i,none⟩ (J2y y)).setCell ⟨g,j,none⟩ (J2y x)).setCell ⟨y,2,none⟩ (.int .i64 i)).setCell ⟨x,2,none⟩ (.int .i64 j)).drew.drew:=by
  have hb:n<=9223372036854775807:=by unfold maxLen at hcap;omega
  clear hcap;go_enter Tryz.func325,Tryz.ntmps325;go_wp2_with fail;go_region
  all_goals go_wp2_with fail
  all_goals go_region
  all_goals go_wp2_with fail
  all_goals go_end0
  all_goals exact⟨rfl,rfl⟩
theorem Jdb {α:Type} (A C:List α) (x v:α):(A++x::C).set A.length v=A++v::C:=by
 induction A with
 |nil=>rfl
 |cons a A ih=>simp[ih]
theorem Jbw {α:Type} {es:List α} (hij:i<j) (hj:j<es.length):∃A x B y C,es=A++x::(B++y::C)/\A.length=i/\B.length+i+1=j:=by
 have hi:i<es.length:=by omega
 refine⟨es.take i,es[i],(es.drop (i+1)).take (j - i - 1),es[j],es.drop (j+1),?_,by simp;omega,by simp;omega⟩
 have e1:es=es.take i++es[i]::es.drop (i+1):=by
  rw[<-List.drop_eq_getElem_cons hi,List.take_append_drop]
 have e2:es.drop (i+1)=(es.drop (i+1)).take (j - i - 1)++es[j]::es.drop (j+1):=by
  have hk:j - i - 1<(es.drop (i+1)).length:=by simp;omega
  have e3:(es.drop (i+1))[j - i - 1]=es[j]:=by simp only[List.getElem_drop];congr 1;omega
  have e4:(es.drop (i+1)).drop (j - i - 1+1)=es.drop (j+1):=by rw[List.drop_drop];congr 1;omega
  rw[<-e3,<-e4,<-List.drop_eq_getElem_cons hk,List.take_append_drop]
 rw[<-e2];exact e1
def J5i (es:List En) (i j:Nat):List En:=match es[i]?,es[j]? with
 |some x,some y=>(es.set i y).set j x
 |_,_=>es
theorem J8f (A B C:List En) (x y:En):J5i (A++x::(B++y::C)) A.length (B.length+A.length+1)=A++y::(B++x::C):=by
 have h1:(A++x::(B++y::C))[A.length]? =some x:=by simp
 have h2:(A++x::(B++y::C))[B.length+A.length+1]? =some y:=by
  rw[List.getElem?_append_right (by omega),show B.length+A.length+1 - A.length=B.length+1 by omega,List.getElem?_cons_succ]
  simp
 simp only[J5i,h1,h2];rw[Jdb];have:A++y::(B++y::C)=(A++y::B)++y::C:=by simp
 rw[this,show B.length+A.length+1=(A++y::B).length by simp;omega,Jdb]
 simp
theorem J6p (es:List En) (i j:Nat):(J5i es i j).length=es.length:=by
 unfold J5i;split<;>simp
theorem J5j (hij:i<j) (hj:j<es.length):(J5i es i j).Perm es:=by
 obtain⟨A,x,B,y,C,rfl,rfl,rfl⟩:=Jbw hij hj
 rw[J8f];refine List.Perm.append_left _ ?_;refine(List.Perm.cons _ List.perm_middle).trans ?_
 refine(List.Perm.swap _ _ _).trans ?_
 exact List.Perm.cons _ List.perm_middle.symm
theorem J7b {m:Nat} (hij:i<j) (hj:j<m):(J5i es i j).drop m=es.drop m:=by
 unfold J5i;split
 ·apply List.ext_getElem?
  intro a
  simp only[List.getElem?_drop,List.getElem?_set];rw[if_neg (by omega),if_neg (by omega)]
 ·rfl
theorem Jft (A B C:List En) (x y:En):J02 0 (A++x::(B++y::C))=J02 0 A++(x.b,J25 x A.length)::(J02 (A.length+1) B++(y.b,J25 y (B.length+A.length+1))::J02 (B.length+A.length+2) C):=by
 rw[J2b,Nat.zero_add,J02,J2b,J02,show A.length+1+B.length=B.length+A.length+1 by omega]
theorem J6g {n:Nat} (hS:J3 w0 l w (K9 xb mb (.slice (some ⟨g,0,none⟩) n cap) sl es++r)) (hat:J0r (.slice (some ⟨g,0,none⟩) n cap) sl es) (hij:i<j) (hj:j<es.length):
 Calls Tryz.prog 325 #[.slice (some ⟨g,0,none⟩) n cap,.int .i64 i,.int .i64 j] w fun e w'=>e= .returned (.tuple #[])/\
  ∃sl',J0r (.slice (some ⟨g,0,none⟩) n cap) sl' (J5i es i j)/\J3 w0 l w' (K9 xb mb (.slice (some ⟨g,0,none⟩) n cap) sl' (J5i es i j)++r):=by
 obtain⟨hsl⟩:=hat
 generalize hxs:es.map J0j=xs at hsl;generalize hn:es.length=n' at hsl;cases hsl with
 |laid g n cap xs rest hx hr hnc hc=>
 obtain⟨A,x,B,y,C,rfl,rfl,rfl⟩:=Jbw hij hj
 subst hxs;have hSx:J3 w0 l w ((xb,J27 (.slice (some ⟨g,0,none⟩) n cap) mb)::(g,.cells (((A++x::(B++y::C)).map J0j)++rest).toArray 229 (0,0))::
  (J02 0 A++(x.b,J25 x A.length)::(J02 (A.length+1) B++(y.b,J25 y (B.length+A.length+1))::(J02 (B.length+A.length+2) C++r)))):=by
  have:=hS
  rw[K9,Jft] at this;simpa using this
 have hown:=hSx.own;have hg:=hown.tail.head;have hxo:w.heap[x.b]? =some (J25 x A.length):=hown.at_ (x.b,J25 x A.length) (by simp)
 have hyo:w.heap[y.b]? =some (J25 y (B.length+A.length+1)):=hown.at_ (y.b,J25 y (B.length+A.length+1)) (by simp)
 have hnd:=hown.nd;simp only[J0y,J1h,Jto,List.nodup_cons,List.mem_cons,List.mem_append,not_or] at hnd;have hgx:g≠x.b:=hnd.2.1.2.1;have hgy:g≠y.b:=hnd.2.1.2.2.2.1;have hxy:x.b≠y.b:=by
  have:=hnd.2.2
  rw[List.nodup_append] at this;have:=this.2.1
  rw[List.nodup_cons] at this;intro e
  exact this.1 (by rw[e];simp)
 have ci:=J2 hg A.length;have cj:=J2 hg (B.length+A.length+1);have hi1:((((A++x::(B++y::C)).map J0j)++rest).toArray)[A.length]? =some (J2y x.b):=by
  simp[J0j]
 have hj1:((((A++x::(B++y::C)).map J0j)++rest).toArray)[B.length+A.length+1]? =some (J2y y.b):=by
  simp only[List.getElem?_toArray,List.map_append,List.map_cons,List.append_assoc,List.cons_append];rw[List.getElem?_append_right (by simp;omega)]
  rw[show B.length+A.length+1 - (A.map J0j).length=(B.map J0j).length+1 by simp;omega,List.getElem?_cons_succ]
  simp[J0j]
 rw[hi1] at ci;rw[hj1] at cj;have hlen:(A++x::(B++y::C)).length=A.length+1+B.length+1+C.length:=by simp;omega
 have hnn:n=A.length+1+B.length+1+C.length:=by rw[<-hlen,hn]
 refine(Jvb g n cap A.length (B.length+A.length+1) x.b y.b _ _ w (by omega) (by omega) (by omega) hnc hc ci cj (J2 hxo 2) (J2 hyo 2) (fun a=>Jg hg a) (Jg hxo 2) (Jg hyo 2) hgx hgy hxy).mono ?_
 rintro e w' ⟨he,rfl⟩;rw[J8f];refine⟨he,[(g,.cells (((A++y::(B++x::C)).map J0j)++rest).toArray 229 (0,0))],⟨?_⟩,?_⟩
 ·have e1:(A++y::(B++x::C)).length=n:=by rw[hnn];simp;omega
  rw[e1];exact .laid g n cap _ rest (by rw[List.length_map,e1];omega) hr hnc hc
 ·have h1:=((hSx.set2 A.length (J2y y.b)).set2 (B.length+A.length+1) (J2y x.b))
  have ecs:((((A++x::(B++y::C)).map J0j)++rest).toArray.setIfInBounds A.length (J2y y.b)).setIfInBounds (B.length+A.length+1) (J2y x.b)=(((A++y::(B++x::C)).map J0j)++rest).toArray:=by
   simp only[List.setIfInBounds_toArray,List.map_append,List.map_cons,List.append_assoc,List.cons_append];congr 1
   have e1:=Jdb (A.map J0j) (B.map J0j++J0j y::(C.map J0j++rest)) (J0j x) (J2y y.b);rw[List.length_map] at e1;rw[e1];have e2:A.map J0j++J2y y.b::(B.map J0j++J0j y::(C.map J0j++rest))=(A.map J0j++J2y y.b::B.map J0j)++J0j y::(C.map J0j++rest):=by simp
   rw[e2,show B.length+A.length+1=(A.map J0j++J2y y.b::B.map J0j).length by simp;omega,Jdb]
   simp[J0j]
  rw[ecs] at h1;have h2:J3 w0 l _ (((xb,J27 (.slice (some ⟨g,0,none⟩) n cap) mb)::(g,.cells (((A++y::(B++x::C)).map J0j)++rest).toArray 229 (0,0))::
   (J02 0 A++(x.b,J25 x A.length)::J02 (A.length+1) B))++(y.b,J25 y (B.length+A.length+1))::(J02 (B.length+A.length+2) C++r)):=h1.permR (List.Perm.of_eq (by simp))
  have h3:=h2.setIn 2 (.int .i64 (A.length:Nat));have h4:J3 w0 l _ (((xb,J27 (.slice (some ⟨g,0,none⟩) n cap) mb)::(g,.cells (((A++y::(B++x::C)).map J0j)++rest).toArray 229 (0,0))::J02 0 A)++(x.b,J25 x A.length)::(J02 (A.length+1) B++
   (y.b,J25 y A.length)::(J02 (B.length+A.length+2) C++r))):=h3.permR (List.Perm.of_eq (by simp))
  have h5:=h4.setIn 2 (.int .i64 ((B.length+A.length+1:Nat):Int));refine((h5.drew.drew).permR ?_)
  rw[K9,Jft];simp only[List.cons_append,List.nil_append,List.append_assoc,List.singleton_append];refine List.Perm.cons _ (List.Perm.cons _ (List.Perm.append_left _ ?_));simp only[List.setIfInBounds_toArray,List.set_cons_succ,List.set_cons_zero];refine(List.Perm.cons _ List.perm_middle).trans ?_
  refine(List.Perm.swap _ _ _).trans ?_
  exact List.Perm.cons _ List.perm_middle.symm
theorem J6f {n:Nat} (hS:J3 w0 l w (K9 xb mb (.slice (some ⟨g,0,none⟩) n cap) sl es++r)) (hat:J0r (.slice (some ⟨g,0,none⟩) n cap) sl es) (hi:i<es.length) (hj:j<es.length):
 Calls Tryz.prog 324 #[.slice (some ⟨g,0,none⟩) n cap,.int .i64 i,.int .i64 j] w fun e w'=>e= .returned (.bool (J7q es[i] es[j]))/\J3 w0 l w' (K9 xb mb (.slice (some ⟨g,0,none⟩) n cap) sl es++r):=by
 obtain⟨hsl⟩:=hat
 generalize hxs:es.map J0j=xs at hsl;generalize hn:es.length=n' at hsl;cases hsl with
 |laid g n cap xs rest hx hr hnc hc=>
 subst hxs;have hown:=hS.own;have hg:w.heap[g]? =some (.cells ((es.map J0j)++rest).toArray 229 (0,0)):=hown.at_ (g,_) (by simp[K9])
 have hcell:∀a (ha:a<es.length),w.cell? ⟨g,a,none⟩=some (J2y (es[a]).b):=by
  intro a ha
  rw[J2 hg];simp only[List.getElem?_toArray];rw[List.getElem?_append_left (by simpa using ha)]
  simp[J0j,List.getElem?_eq_getElem ha]
 have hen:∀a (ha:a<es.length),w.heap[(es[a]).b]? =some (J25 es[a] a):=fun a ha=>Jdy (r1:=[(xb,_),(g,_)]) (r2:=r) (by simpa[K9] using hown) ha
 refine(Jtu g n cap i j es[i] es[j] w (by omega) (by omega) hnc hc (hcell i hi) (hcell j hj) (J2 (hen i hi) 0) (J2 (hen i hi) 1) (J2 (hen j hj) 0) (J2 (hen j hj) 1)).mono ?_
 rintro e w' ⟨he,hs⟩;exact⟨he,hS.part (a:=[]) (a':=[]) (List.Perm.refl _) hs⟩
theorem Juw (x y:String):(Builtin.ssaWrapNilChk_ #[t] t #[.pointer (some a),strVal x,strVal y]).run P w= .ok (.pointer (some a)) w:=rfl
theorem J5h {fuel:Nat} {elem:TypeId} {name:String} {m:Method} {i:TypeInfo} {f:FuncId} {v:Value} (hi:P.info? t=some i) (hm:i.methods.find? (·.name==name)=some m) (hp:m.path= #[])
 (hf:m.func=some (f,false)) (hu:P.underlying t=some (.pointer elem)) (hl:(loadVar elem a).run P w= .ok v w):(method (fuel+1) t (.pointer (some a)) name).run P w= .ok (f,v) w:=by
  unfold method;simp[typeInfo,hi,hm,hp,hf,follow,receiverAt,run_underlying hu,Place.get,Juw,asAddr,hl]
theorem J8b {fuel:Nat} {elem:TypeId} {name:String} {m:Method} {i:TypeInfo} {f:FuncId} (hi:P.info? t=some i) (hm:i.methods.find? (·.name==name)=some m) (hp:m.path= #[])
 (hf:m.func=some (f,true)) (hu:P.underlying t=some (.pointer elem)):(method (fuel+1) t (.pointer (some a)) name).run P w= .ok (f,.pointer (some a)) w:=by
  unfold method;simp[typeInfo,hi,hm,hp,hf,follow,receiverAt,run_underlying hu,Place.get]
theorem J6m (name:String) (f:FuncId) (b:Bool) (h:((Tryz.prog.info? 232).bind fun i=>(i.methods.find? (·.name==name)).map fun m=>(m.path.size,m.func))=some (0,some (f,b))):
 ∃i m,Tryz.prog.info? 232=some i/\i.methods.find? (·.name==name)=some m/\m.path= #[]/\m.func=some (f,b):=by
 cases hi:Tryz.prog.info? 232 with
 |none=>rw[hi] at h;cases h
 |some i=>
  rw[hi] at h;cases hm:i.methods.find? (·.name==name) with
  |none=>simp[hm] at h
  |some m=>
   simp[hm] at h;exact⟨i,m,rfl,hm,h.1,h.2⟩
theorem Jcd (xb:Nat) (v:Value) (n:Nat) (w:World) (h:w.cell? ⟨xb,0,none⟩=some v):(method (n+1) 232 (.pointer (some ⟨xb,0,none⟩)) "Less").run Tryz.prog w= .ok (324,v) w:=by
 obtain⟨i,m,hi,hm,hp,hf⟩:=J6m "Less" 324 false (by kernel_rfl)
 exact J5h hi hm hp hf Tryz.underlying232 (by simp[go_sem,h])
theorem J84 (xb:Nat) (v:Value) (n:Nat) (w:World) (h:w.cell? ⟨xb,0,none⟩=some v):(method (n+1) 232 (.pointer (some ⟨xb,0,none⟩)) "Swap").run Tryz.prog w= .ok (325,v) w:=by
 obtain⟨i,m,hi,hm,hp,hf⟩:=J6m "Swap" 325 false (by kernel_rfl)
 exact J5h hi hm hp hf Tryz.underlying232 (by simp[go_sem,h])
theorem J9q (xb:Nat) (v:Value) (n:Nat) (w:World) (h:w.cell? ⟨xb,0,none⟩=some v):(method (n+1) 232 (.pointer (some ⟨xb,0,none⟩)) "Len").run Tryz.prog w= .ok (323,v) w:=by
 obtain⟨i,m,hi,hm,hp,hf⟩:=J6m "Len" 323 false (by kernel_rfl)
 exact J5h hi hm hp hf Tryz.underlying232 (by simp[go_sem,h])
theorem Jk4 (xb:Nat) (n:Nat) (w:World):(method (n+1) 232 (.pointer (some ⟨xb,0,none⟩)) "Push").run Tryz.prog w= .ok (334,.pointer (some ⟨xb,0,none⟩)) w:=by
 obtain⟨i,m,hi,hm,hp,hf⟩:=J6m "Push" 334 true (by kernel_rfl)
 exact J8b hi hm hp hf Tryz.underlying232
theorem Jmu (xb:Nat) (n:Nat) (w:World):(method (n+1) 232 (.pointer (some ⟨xb,0,none⟩)) "Pop").run Tryz.prog w= .ok (333,.pointer (some ⟨xb,0,none⟩)) w:=by
 obtain⟨i,m,hi,hm,hp,hf⟩:=J6m "Pop" 333 true (by kernel_rfl)
 exact J8b hi hm hp hf Tryz.underlying232
abbrev Jus (xb:Nat):Value:=.iface 232 (.pointer (some ⟨xb,0,none⟩))
theorem Jny {n:Nat} (hS:J3 w0 l w (K9 xb mb (.slice (some ⟨g,0,none⟩) n cap) sl es++r)) (hat:J0r (.slice (some ⟨g,0,none⟩) n cap) sl es) (hj:j<es.length) (hB:es.length<=1099511627776):
 Calls Tryz.prog 207 #[Jus xb,.int .i64 j] w fun e w'=>e= .returned (.tuple #[])/\∃sl' es',(es'.Perm es/\es'.drop (j+1)=es.drop (j+1))/\J0r (.slice (some ⟨g,0,none⟩) n cap) sl' es'/\J3 w0 l w' (K9 xb mb (.slice (some ⟨g,0,none⟩) n cap) sl' es'++r):=by
 have hS':=hid hS;have hat':=hid hat;have hml:=Jcd xb (.slice (some ⟨g,0,none⟩) n cap);have hms:=J84 xb (.slice (some ⟨g,0,none⟩) n cap);clear hS hat;go_enter Tryz.func207,Tryz.ntmps207;go_wp2_with fail;go_loopw [1] (fun c wr=>∃(k:Nat) (sl':Hp) (es':List En),c= .int .i64 k/\k<=j/\Hid (es'.length=es.length)/\Hid (es'.Perm es/\es'.drop (j+1)=es.drop (j+1))/\Hid (J0r (.slice (some ⟨g,0,none⟩) n cap) sl' es')/\Hid (J3 w0 l wr (K9 xb mb (.slice (some ⟨g,0,none⟩) n cap) sl' es'++r))) (fun c _=>(intOf c).toNat)
 case atStart=>exact⟨j,sl,es,rfl,Nat.le_refl _,hid rfl,hid ⟨List.Perm.refl _,rfl⟩,hat',hS'⟩
 case round=>
  obtain⟨k,sl',es',rfl,hk,hlen,hperm,hat2,hS2⟩:=hrel
  have c0:wr.cell? ⟨xb,0,none⟩=some (.slice (some ⟨g,0,none⟩) n cap):=J2 hS2.out.own.head 0;by_cases hk0:k=0
  ·subst hk0
   go_wp2_with fail;go_end0
   exact⟨rfl,sl',es',hperm.out,hat2.out,hS2.out⟩
  ·have hkp:0<k:=by omega
   obtain⟨i,hik,hii⟩:∃i:Nat,i<k/\((k:Int) - 1)/2=(i:Int):=⟨(k - 1)/2,by omega,by omega⟩
   have hbq:((i:Int)==(k:Int))=false:=by rw[beq_eq_false_iff_ne];omega
   have hless:=hid (J6f hS2.out hat2.out (i:=k) (j:=i) (by rw[hlen.out];omega) (by rw[hlen.out];omega))
   clear hk0;go_wp2_with fail;refine hless.out.mono ?_;rintro e w2 ⟨rfl,S3⟩;have c0':w2.cell? ⟨xb,0,none⟩=some (.slice (some ⟨g,0,none⟩) n cap):=J2 S3.own.head 0;have hswap:=hid (J6g S3 hat2.out hik (by rw[hlen.out];omega))
   replace S3:=hid S3;clear hless c0;cases hlt:J7q (es'[k]'(by rw[hlen.out];omega)) (es'[i]'(by rw[hlen.out];omega)) with
   |true=>
    go_wp2_with fail;refine hswap.out.mono ?_;rintro e w3 ⟨rfl,sl3,hat3,S4⟩;replace hat3:=hid hat3;replace S4:=hid S4;go_wp2_with fail;go_roundw
    case rel=>exact⟨i,sl3,J5i es' i k,rfl,by omega,hid (by rw[J6p];exact hlen.out),hid ⟨(J5j hik (by rw[hlen.out];omega)).trans hperm.out.1,(J7b hik (by omega)).trans hperm.out.2⟩,hat3,S4⟩
    case measure=>simp[intOf];omega
   |false=>
    go_wp2_with fail;go_end0
    exact⟨rfl,sl',es',hperm.out,hat2.out,S3.out⟩
def Jsc (e:Ending):Prop:=∃b,e= .returned (.bool b)
theorem Jj8 {n m:Nat} (hS:J3 w0 l w (K9 xb mb (.slice (some ⟨g,0,none⟩) n cap) sl es++r)) (hat:J0r (.slice (some ⟨g,0,none⟩) n cap) sl es) (hi:i<=m) (hm:m<=es.length) (hB:es.length<=1099511627776):
 Calls Tryz.prog 206 #[Jus xb,.int .i64 i,.int .i64 m] w fun e w'=>Jsc e/\∃sl' es',(es'.Perm es/\es'.drop m=es.drop m)/\J0r (.slice (some ⟨g,0,none⟩) n cap) sl' es'/\J3 w0 l w' (K9 xb mb (.slice (some ⟨g,0,none⟩) n cap) sl' es'++r):=by
 have hS':=hid hS;have hat':=hid hat;have hml:=Jcd xb (.slice (some ⟨g,0,none⟩) n cap);have hms:=J84 xb (.slice (some ⟨g,0,none⟩) n cap);clear hS hat;go_enter Tryz.func206,Tryz.ntmps206;go_wp2_with fail;go_loopw [7] (fun c wr=>∃(k:Nat) (sl':Hp) (es':List En),c= .int .i64 k/\k<=m/\Hid (es'.length=es.length)/\Hid (es'.Perm es/\es'.drop m=es.drop m)/\Hid (J0r (.slice (some ⟨g,0,none⟩) n cap) sl' es')/\Hid (J3 w0 l wr (K9 xb mb (.slice (some ⟨g,0,none⟩) n cap) sl' es'++r))) (fun c _=>m - (intOf c).toNat)
 case atStart=>exact⟨i,sl,es,rfl,hi,hid rfl,hid ⟨List.Perm.refl _,rfl⟩,hat',hS'⟩
 case round=>
  obtain⟨k,sl',es',rfl,hk,hlen,hperm,hat2,hS2⟩:=hrel
  have c0:wr.cell? ⟨xb,0,none⟩=some (.slice (some ⟨g,0,none⟩) n cap):=J2 hS2.out.own.head 0;by_cases h1:2*k+1<m
  ·by_cases h2:2*k+2<m
   ·have hless:=hid (J6f hS2.out hat2.out (i:=2*k+2) (j:=2*k+1) (by rw[hlen.out];omega) (by rw[hlen.out];omega))
    have ecast:((2*k+2:Nat):Int)=2*(k:Int)+1+1:=by omega
    have ecast1:((2*k+1:Nat):Int)=2*(k:Int)+1:=by omega
    rw[ecast,ecast1] at hless;clear ecast ecast1;go_wp2_with fail;refine hless.out.mono ?_;rintro e w3 ⟨rfl,S3⟩;replace S3:=hid S3;clear hless c0;cases hb:J7q (es'[2*k+2]'(by rw[hlen.out];omega)) (es'[2*k+1]'(by rw[hlen.out];omega)) with
    |true=>
     have c0b:w3.cell? ⟨xb,0,none⟩=some (.slice (some ⟨g,0,none⟩) n cap):=J2 S3.out.own.head 0;have hless2:=hid (J6f S3.out hat2.out (i:=2*k+2) (j:=k) (by rw[hlen.out];omega) (by rw[hlen.out];omega))
     have ecj:((2*k+2:Nat):Int)=2*(k:Int)+1+1:=by omega
     rw[ecj] at hless2;go_wp2_with fail;refine hless2.out.mono ?_;rintro e w4 ⟨rfl,S4⟩;have c0c:w4.cell? ⟨xb,0,none⟩=some (.slice (some ⟨g,0,none⟩) n cap):=J2 S4.own.head 0;have hswap:=hid (J6g S4 hat2.out (i:=k) (j:=2*k+2) (by omega) (by rw[hlen.out];omega))
     rw[ecj] at hswap;clear ecj;replace S4:=hid S4;clear hless2 c0b;cases hlt:J7q (es'[2*k+2]'(by rw[hlen.out];omega)) (es'[k]'(by rw[hlen.out];omega)) with
     |true=>
      go_wp2_with fail;refine hswap.out.mono ?_;rintro e w5 ⟨rfl,sl5,hat5,S5⟩;replace hat5:=hid hat5;replace S5:=hid S5;go_wp2_with fail;go_roundw
      case rel=>exact⟨2*k+2,sl5,J5i es' k (2*k+2),by go_num,by omega,hid (by rw[J6p];exact hlen.out),hid ⟨(J5j (by omega) (by rw[hlen.out];omega)).trans hperm.out.1,(J7b (by omega) (by omega)).trans hperm.out.2⟩,hat5,S5⟩
      case measure=>simp[intOf];omega
     |false=>
      go_wp2_with fail;go_ret;exact⟨⟨_,rfl⟩,sl',es',hperm.out,hat2.out,S4.out⟩
    |false=>
     have c0b:w3.cell? ⟨xb,0,none⟩=some (.slice (some ⟨g,0,none⟩) n cap):=J2 S3.out.own.head 0;have hless2:=hid (J6f S3.out hat2.out (i:=2*k+1) (j:=k) (by rw[hlen.out];omega) (by rw[hlen.out];omega))
     have ecj:((2*k+1:Nat):Int)=2*(k:Int)+1:=by omega
     rw[ecj] at hless2;go_wp2_with fail;refine hless2.out.mono ?_;rintro e w4 ⟨rfl,S4⟩;have c0c:w4.cell? ⟨xb,0,none⟩=some (.slice (some ⟨g,0,none⟩) n cap):=J2 S4.own.head 0;have hswap:=hid (J6g S4 hat2.out (i:=k) (j:=2*k+1) (by omega) (by rw[hlen.out];omega))
     rw[ecj] at hswap;clear ecj;replace S4:=hid S4;clear hless2 c0b;cases hlt:J7q (es'[2*k+1]'(by rw[hlen.out];omega)) (es'[k]'(by rw[hlen.out];omega)) with
     |true=>
      go_wp2_with fail;refine hswap.out.mono ?_;rintro e w5 ⟨rfl,sl5,hat5,S5⟩;replace hat5:=hid hat5;replace S5:=hid S5;go_wp2_with fail;go_roundw
      case rel=>exact⟨2*k+1,sl5,J5i es' k (2*k+1),by go_num,by omega,hid (by rw[J6p];exact hlen.out),hid ⟨(J5j (by omega) (by rw[hlen.out];omega)).trans hperm.out.1,(J7b (by omega) (by omega)).trans hperm.out.2⟩,hat5,S5⟩
      case measure=>simp[intOf];omega
     |false=>
      go_wp2_with fail;go_ret;exact⟨⟨_,rfl⟩,sl',es',hperm.out,hat2.out,S4.out⟩
   ·clear c0
    have c0b:wr.cell? ⟨xb,0,none⟩=some (.slice (some ⟨g,0,none⟩) n cap):=J2 hS2.out.own.head 0;have hless2:=hid (J6f hS2.out hat2.out (i:=2*k+1) (j:=k) (by rw[hlen.out];omega) (by rw[hlen.out];omega))
    have ecj:((2*k+1:Nat):Int)=2*(k:Int)+1:=by omega
    rw[ecj] at hless2;go_wp2_with fail;refine hless2.out.mono ?_;rintro e w4 ⟨rfl,S4⟩;have c0c:w4.cell? ⟨xb,0,none⟩=some (.slice (some ⟨g,0,none⟩) n cap):=J2 S4.own.head 0;have hswap:=hid (J6g S4 hat2.out (i:=k) (j:=2*k+1) (by omega) (by rw[hlen.out];omega))
    rw[ecj] at hswap;clear ecj;replace S4:=hid S4;clear hless2 c0b;cases hlt:J7q (es'[2*k+1]'(by rw[hlen.out];omega)) (es'[k]'(by rw[hlen.out];omega)) with
    |true=>
     go_wp2_with fail;refine hswap.out.mono ?_;rintro e w5 ⟨rfl,sl5,hat5,S5⟩;replace hat5:=hid hat5;replace S5:=hid S5;go_wp2_with fail;go_roundw
     case rel=>exact⟨2*k+1,sl5,J5i es' k (2*k+1),by go_num,by omega,hid (by rw[J6p];exact hlen.out),hid ⟨(J5j (by omega) (by rw[hlen.out];omega)).trans hperm.out.1,(J7b (by omega) (by omega)).trans hperm.out.2⟩,hat5,S5⟩
     case measure=>simp[intOf];omega
    |false=>
     go_wp2_with fail;go_ret;exact⟨⟨_,rfl⟩,sl',es',hperm.out,hat2.out,S4.out⟩
  ·go_wp2_with fail
   go_ret;exact⟨⟨_,rfl⟩,sl',es',hperm.out,hat2.out,hS2.out⟩
theorem Jhk:(Tryz.prog.info? 229).map (fun i=>(i.zero,i.size,i.bytes))=some (some (.pointer none),1,8):=by kernel_rfl
theorem SliceHp.shape {k:Nat} {T:TypeId} {v:Value} {n:Nat} {xs:List Value} (h:SliceHp k T v n xs l):∃a c,v= .slice a n c:=by
 cases h with
 |nil=>exact⟨_,_,rfl⟩
 |laid g n cap xs rest hx hr hn hc=>exact⟨_,_,rfl⟩
theorem J0r.rv {rv:Value} (h:J0r rv sl es):(es=[]/\∃a c,rv= .slice a 0 c)\/∃g cap,rv= .slice (some ⟨g,0,none⟩) es.length cap/\es.length<=cap/\cap<=maxLen:=by
 obtain⟨hsl⟩:=h
 generalize es.map J0j=xs at hsl;generalize hn:es.length=n at hsl;cases hsl with
 |nil=>exact .inl ⟨List.eq_nil_of_length_eq_zero hn,_,_,rfl⟩
 |laid g n cap xs rest hx hr hnc hc=>exact .inr ⟨g,cap,rfl,hnc,hc⟩
theorem J0r.shape {rv:Value} (h:J0r rv sl es):∃a c,rv= .slice a es.length c:=by
 rcases h.rv with⟨rfl,a,c,hr⟩|⟨g,cap,hr,_⟩
 ·exact⟨a,c,hr⟩
 ·exact⟨_,_,hr⟩
theorem Jug {eb:Nat} {t:Int} {key:ByteArray} {x:Value} {rv:Value}
 (hS:J3 w0 l w ((eb,.cells #[.int .i64 t,.string key,x] 236 (0,0))::(K9 xb mb rv sl es++r))) (hat:J0r rv sl es) (hB:es.length<=1099511627776):
  Calls Tryz.prog 334 #[.pointer (some ⟨xb,0,none⟩),.iface 229 (J2y eb)] w fun e w'=>e= .returned (.tuple #[])/\
   ∃rv' sl',J0r rv' sl' (es++[⟨eb,t,key⟩])/\J3 w0 l w' (K9 xb mb rv' sl' (es++[⟨eb,t,key⟩])++r):=by
  obtain⟨a,c,rfl⟩:=hat.shape
  have hown:=hS.own;have he2:w.cell? ⟨eb,2,none⟩=some x:=J2 hown.head 2;have hf2:w.frozen? ⟨eb,2,none⟩=false:=Jg hown.head 2;have c0:w.cell? ⟨xb,0,none⟩=some (.slice a es.length c):=J2 hown.tail.head 0;have f0:w.frozen? ⟨xb,0,none⟩=false:=Jg hown.tail.head 0;have hxlt:=Jf hown.tail.head;have helt:=Jf hown.head;have hne:eb≠xb:=by have:=hown.nd;simp[K9] at this;exact this.1.1
  have S1:=(hS.set 2 (.int .i64 es.length)).alloc (.cells #[J2y eb] 229);have hsz:(w.setCell ⟨eb,2,none⟩ (.int .i64 es.length)).heap.size=w.heap.size:=by simp
  rw[hsz] at S1;have hnew:=S1.own.head;have S2:=S1.permR (l2:=sl++((w.heap.size,.cells #[J2y eb] 229)::(xb,J27 (.slice a es.length c) mb)::(eb,.cells #[.int .i64 t,.string key,.int .i64 es.length] 236 (0,0))::(J02 0 es++r))) (by
   simp only[K9,List.cons_append,List.append_assoc];refine List.Perm.trans (List.Perm.cons _ (List.Perm.swap _ _ _)) ?_;exact List.perm_append_comm_assoc [_,_,_] sl _)
  obtain⟨hsl⟩:=hat
  obtain⟨v',w2,sl',hrun,hsl',S3,_⟩:=J1f (P:=Tryz.prog) (ty:=103) Tryz.underlying103 Tryz.underlying103 Jhk rfl (by decide) S2 hsl
   ⟨w.heap.size,0,none⟩ 1 1 [J2y eb] rfl (by
    intro j u hu
    obtain rfl:j=0:=by have:=(List.getElem?_eq_some_iff.1 hu).1;simp at this;exact this
    simp only[List.getElem?_cons_zero,Option.some.injEq] at hu;subst hu;exact J2 hnew 0) (by intro u hu;simp at hu;subst hu;rfl) (by decide) (by omega) (by unfold maxLen;omega)
  obtain⟨a',c',rfl⟩:=hsl'.shape
  have hlt2:∀b,b∈keys ((w.heap.size,Obj.cells #[J2y eb] 229)::(xb,J27 (.slice a es.length c) mb)::(eb,Obj.cells #[.int .i64 t,.string key,.int .i64 es.length] 236 (0,0))::(J02 0 es++r))->b<w2.heap.size:=fun b hb=>S3.own.lt (by rw[J1h];exact List.mem_append_right _ hb)
  have hx2:w2.heap[xb]? =some (J27 (.slice a es.length c) mb):=S3.own.right.tail.head;have d0:w2.cell? ⟨xb,0,none⟩=some (.slice a es.length c):=J2 hx2 0;have g0:w2.frozen? ⟨xb,0,none⟩=false:=Jg hx2 0;have hfin:Hid (∀W,W=w2.setCell ⟨xb,0,none⟩ (.slice a' (es.length+1) c')->∃rv' sl',J0r rv' sl' (es++[⟨eb,t,key⟩])/\J3 w0 l W (K9 xb mb rv' sl' (es++[⟨eb,t,key⟩])++r)):=by
   rintro W rfl;refine⟨.slice a' (es.length+1) c',sl',⟨by simpa[J0j] using hsl'⟩,?_⟩
   have h1:=(S3.permR (l2:=(xb,J27 (.slice a es.length c) mb)::(sl'++((w.heap.size,.cells #[J2y eb] 229)::(eb,.cells #[.int .i64 t,.string key,.int .i64 es.length] 236 (0,0))::(J02 0 es++r)))) (by
    refine List.Perm.trans (List.Perm.append_left _ (List.Perm.swap _ _ _)) ?_;exact List.perm_middle)).set 0 (.slice a' (es.length+1) c')
   have h2:=h1.less (l2:=(xb,J27 (.slice a' (es.length+1) c') mb)::(sl'++((eb,.cells #[.int .i64 t,.string key,.int .i64 es.length] 236 (0,0))::(J02 0 es++r)))) (List.Sublist.cons_cons _ (List.Sublist.append (List.Sublist.refl _) (List.sublist_cons_self _ _)));refine h2.permR ?_;rw[K9,J2b];simp only[J02,Nat.zero_add,List.cons_append,List.append_assoc,List.nil_append];exact List.Perm.cons _ (List.Perm.append_left _ List.perm_middle.symm)
  clear S1 S2 S3 hsl hsl' hlt2 hx2 hown hnew hS;have hta:∀w,(Instr.typeAssert (.iface 229 (J2y eb)) 20 229 false).run Tryz.prog w= .ok (J2y eb) w:=fun _=>by kernel_rfl
  go_enter Tryz.func334,Tryz.ntmps334;replace hrun:=hid hrun;go_wp2_with (at_builtin;refine J8 rfl _ _ _ _ rfl _ _ rfl rfl hrun.out ?_);go_end0
  exact⟨rfl,hfin.out _ rfl⟩
theorem Jwz {n:Nat} {e:En}
 (hS:J3 w0 l w (K9 xb mb (.slice (some ⟨g,0,none⟩) n cap) sl (es++[e])++r)) (hat:J0r (.slice (some ⟨g,0,none⟩) n cap) sl (es++[e])) (hB:es.length<1099511627776):
  Calls Tryz.prog 333 #[.pointer (some ⟨xb,0,none⟩)] w fun en w'=>en= .returned (.iface 229 (J2y e.b))/\
   ∃rv' sl',J0r rv' sl' es/\J3 w0 l w' ((e.b,J25 e es.length)::(K9 xb mb rv' sl' es++r)):=by
  obtain⟨hsl⟩:=hat
  generalize hxs:(es++[e]).map J0j=xs at hsl;generalize hn:(es++[e]).length=n' at hsl;cases hsl with
  |laid g n cap xs rest hx hr hnc hc=>
  subst hxs;have hn1:n=es.length+1:=by rw[<-hn];simp
  subst hn1;have hown:=hS.own;have c0:w.cell? ⟨xb,0,none⟩=some (.slice (some ⟨g,0,none⟩) (es.length+1) cap):=J2 hown.head 0;have f0:w.frozen? ⟨xb,0,none⟩=false:=Jg hown.head 0;have hg:w.heap[g]? =some (.cells ((es++[e]).map J0j++rest).toArray 229 (0,0)):=hown.at_ (g,_) (by simp[K9])
  have ce:w.cell? ⟨g,es.length,none⟩=some (J2y e.b):=by
   rw[J2 hg];simp[J0j]
  have hcb:cap<=9223372036854775807:=by unfold maxLen at hc;omega
  have hfin:Hid (∀W,W=w.setCell ⟨xb,0,none⟩ (.slice (some ⟨g,0,none⟩) es.length cap)->∃rv' sl',J0r rv' sl' es/\J3 w0 l W ((e.b,J25 e es.length)::(K9 xb mb rv' sl' es++r))):=by
   rintro W rfl;refine⟨.slice (some ⟨g,0,none⟩) es.length cap,[(g,.cells ((es++[e]).map J0j++rest).toArray 229 (0,0))],⟨?_⟩,?_⟩
   ·have:=SliceHp.laid (k:=1) (T:=229) g es.length cap (es.map J0j) (J0j e::rest) (by simp) (by simp at hr⊢;omega) (by omega) hc
    simpa using this
   ·have hS2:=hS
    rw[K9,J2b] at hS2;simp only[J02,Nat.zero_add,List.cons_append,List.append_assoc,List.nil_append] at hS2;have h1:=J3.set hS2 0 (.slice (some ⟨g,0,none⟩) es.length cap);refine h1.permR ?_;simp only[K9,List.cons_append,List.append_assoc,List.nil_append];exact List.perm_middle (l₁:=(xb,_)::(g,_)::J02 0 es)
  clear hS hown hg hx hr hn hc;go_enter Tryz.func333,Tryz.ntmps333;go_wp2_with fail;go_ret;exact⟨rfl,hfin.out _ rfl⟩
end Go.Proofs.YtncbcaabanoeoaaGreatDoor
