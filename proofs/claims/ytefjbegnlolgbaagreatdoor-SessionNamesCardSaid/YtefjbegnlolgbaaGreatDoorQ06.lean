/-
recent: New, Touch, Drop, Oldest, by what they do to the keys in the order of their use.
-/
import Derived.LaidEqlPtr
import Derived.Test.YtefjbegnlolgbaaGreatDoorQ04
set_option linter.unusedVariables false
set_option linter.unusedSimpArgs false
set_option maxRecDepth 100000
set_option maxHeartbeats 8000000
namespace Go.Proofs.YtefjbegnlolgbaaGreatDoor
open Go Go.RowKit
variable {ns:List Nd}{w:World}{rb mb:Nat}{o:Obj}{l:Hp}{k:ByteArray}{ks:List ByteArray}
theorem Jgl {q:Nat} (hq:q∈ns.map Prod.fst) (prev fin:Nat):∃k a n,(q,J0i k a n)∈Js prev ns fin:=by
 induction ns generalizing prev with
 |nil=>cases hq
 |cons p ns ih=>
  rcases List.mem_cons.1 hq with rfl|hq
  ·exact⟨_,_,_,List.mem_cons_self ..⟩
  ·obtain⟨k,a,n,h⟩:=ih hq p.1
   exact⟨k,a,n,List.mem_cons_of_mem _ h⟩
theorem Jm3 (ns:List Nd) (r:Nat):hd ns r=r\/hd ns r∈ns.map Prod.fst:=by
 cases ns with
 |nil=>exact .inl rfl
 |cons p ns=>exact .inr (by simp[hd])
theorem Jbr (ns:List Nd) (r:Nat):lst ns r=r\/lst ns r∈ns.map Prod.fst:=by
 induction ns generalizing r with
 |nil=>exact .inl rfl
 |cons p ns ih=>
  rcases ih p.1 with h|h
  ·exact .inr (by rw[J36,h];simp)
  ·exact .inr (by rw[J36];simp[h])
theorem J9b (ns:List Nd) (x y:Nat):keys (Js x ns y)=ns.map Prod.fst:=by
 induction ns generalizing x with
 |nil=>rfl
 |cons p ns ih=>simp[J2e,ih]
structure Jlw (w:World) (q:Nat):Prop where
 c1:∃x,w.cell? ⟨q,1,none⟩=some x
 c2:∃x,w.cell? ⟨q,2,none⟩=some x
 fz:∀i,w.frozen? ⟨q,i,none⟩=false
theorem J5z {r:Hp} (h:Own w (J0a rb mb o ns++r)) {q:Nat} (hq:q=rb\/q∈ns.map Prod.fst):Jlw w q:=by
 rcases hq with rfl|hq
 ·have:=h.left.head
  exact⟨⟨_,J0 this 1⟩,⟨_,J0 this 2⟩,fun i=>J6 this i⟩
 ·obtain⟨k,a,n,hm⟩:=Jgl hq rb rb
  have:=h.left.at_ _ (List.mem_cons_of_mem _ (List.mem_cons_of_mem _ hm))
  exact⟨⟨_,J0 this 1⟩,⟨_,J0 this 2⟩,fun i=>J6 this i⟩
theorem J79 {a b:List Nd} {p:Nd} (h:Own w (J0a rb mb o (a++p::b))):w.heap[p.1]? =some (J0i p.2 (lst a rb) (hd b rb)):=by
 refine h.at_ (p.1,_) ?_;rw[J0a,Jaq];simp
theorem Jdt {w0:World} {a b:List Nd} {p:Nd} (h:J1 w0 l w (J0a rb mb o (a++p::b))):
 Calls Tryz.prog 177 #[ptr p.1] w fun e w'=>e= .returned (.tuple #[])/\J1 w0 l w' ((p.1,J0i p.2 (lst a rb) (hd b rb))::J0a rb mb o (a++b)):=by
 have hn:=J79 h.own;have ha:=J5z (r:=[]) (by simpa using h.own) (q:=lst a rb) ((Jbr a rb).imp id (by intro h;simp at h⊢;exact .inl h))
 have hb:=J5z (r:=[]) (by simpa using h.own) (q:=hd b rb) ((Jm3 b rb).imp id (by intro h;simp at h⊢;exact .inr (.inr h)))
 obtain⟨x,hx⟩:=ha.c2
 obtain⟨y,hy⟩:=hb.c1
 refine(Jky p.1 (lst a rb) (hd b rb) x y w (J0 hn 1) (J0 hn 2) hx hy (ha.fz 2) (hb.fz 1)).mono ?_
 rintro e w' ⟨he,rfl⟩;exact⟨he,(Jj6 h).drew⟩
theorem Jav {w0:World} {b:Nat} {x1 x2:Value} (h:J1 w0 l w ((b,.cells #[.string k,x1,x2] 107 (0,0))::J0a rb mb o ns)):
 Calls Tryz.prog 191 #[ptr rb,ptr b] w fun e w'=>e= .returned (.tuple #[])/\J1 w0 l w' (J0a rb mb o (ns++[(b,k)])):=by
 have hb:=h.own.head;have hr:=h.own.tail.head;have hnd:=h.own.nd;simp only[J0v,J0a,J9b,List.nodup_cons,List.mem_cons,not_or] at hnd;have hq:=J5z (r:=[]) (by simpa using h.own.tail) (q:=lst ns rb) (Jbr ns rb)
 obtain⟨y,hy⟩:=hq.c2
 have hnq:b≠lst ns rb:=by
  intro e
  rcases Jbr ns rb with h'|h'
  ·exact hnd.1.1 (e.trans h')
  ·exact hnd.1.2.2 (e▸h')
 refine(Jim rb b (lst ns rb) x1 x2 y w hnd.1.1 hnq (J0 hb 1) (J0 hb 2) (J0 hr 1) hy (J6 hb 1) (J6 hb 2) (hq.fz 2) (J6 hr 1)).mono ?_
 rintro e w' ⟨he,rfl⟩;exact⟨he,(Jh0 h).drew.drew⟩
theorem Ja0 (w:World):(zeroValue 105).run Tryz.prog w= .ok (.pointer none) w:=by kernel_rfl
theorem J01 {α:Type} {m m':AL α} (hp:m.Perm m') (hn:(m.map Prod.fst).Nodup) (k:ByteArray):J7 m k=J7 m' k:=by
 have hn':(m'.map Prod.fst).Nodup:=(hp.map Prod.fst).nodup_iff.1 hn
 have key:∀(l:AL α),(l.map Prod.fst).Nodup->∀v,J7 l k=some v ↔ (k,v)∈l:=by
  intro l hl v
  induction l with
  |nil=>simp[J7]
  |cons p l ih=>
   simp only[List.map_cons,List.nodup_cons] at hl;simp only[J7,List.find?_cons] at ih⊢;by_cases hk:p.1=k
   ·simp only[hk,decide_true,Option.map_some,Option.some.injEq,List.mem_cons]
    constructor
    ·intro h;left;rw[<-h,<-hk]
    ·rintro (h|h)
     ·rw[<-h]
     ·exact absurd (List.mem_map.2 ⟨_,h,rfl⟩) (hk▸hl.1)
   ·simp only[hk,decide_false,List.mem_cons]
    rw[ih hl.2];constructor
    ·exact .inr
    ·rintro (h|h)
     ·exact absurd (by rw[<-h]) hk
     ·exact h
 cases h1:J7 m k with
 |some v=>exact((key m' hn' v).2 (hp.mem_iff.1 ((key m hn v).1 h1))).symm
 |none=>
  cases h2:J7 m' k with
  |none=>rfl
  |some v=>
   have:=(key m hn v).2 (hp.mem_iff.2 ((key m' hn' v).1 h2))
   rw[h1] at this;cases this
theorem J7t (ns:List Nd) (key:ByteArray):(J7 (ns.map J4v) key=none/\key∉ns.map Prod.snd)\/∃a p b,ns=a++p::b/\p.2=key/\J7 (ns.map J4v) key=some (ptr p.1):=by
 induction ns with
 |nil=>exact .inl ⟨rfl,by simp⟩
 |cons q ns ih=>
  by_cases hq:q.2=key
  ·refine .inr ⟨[],q,ns,rfl,hq,?_⟩
   simp[J7,J4v,hq]
  ·rcases ih with⟨h1,h2⟩|⟨a,p,b,h1,h2,h3⟩
   ·refine .inl ⟨?_,by simp only[List.map_cons,List.mem_cons,not_or];exact⟨fun e=>hq e.symm,h2⟩⟩
    simpa[J7,J4v,hq] using h1
   ·refine .inr ⟨q::a,p,b,by rw[h1];rfl,h2,?_⟩
    simpa[J7,J4v,hq] using h3
theorem J9j (ns:List Nd):(ns.map J4v).map Prod.fst=ns.map Prod.snd:=by simp[J4v,Function.comp_def]
def J35 (ks:List ByteArray) (k:ByteArray):List ByteArray:=ks.filter (fun x=>decide (x≠k))
theorem Jdc {a b:List ByteArray} (h:(a++k::b).Nodup):J35 (a++k::b) k=a++b:=by
 rw[List.nodup_append] at h;have h2:=h.2.1;rw[List.nodup_cons] at h2
 have ha:a.filter (fun x=>decide (x≠k))=a:=by
  rw[List.filter_eq_self];intro x hx;have:=h.2.2 x hx k (by simp);simpa using this
 have hb:b.filter (fun x=>decide (x≠k))=b:=by
  rw[List.filter_eq_self];intro x hx;have:x≠k:=fun e=>h2.1 (e▸hx);simpa using this
 simp only[J35,List.filter_append,List.filter_cons,ha,hb];simp
theorem J71 (h:k∉ks):J35 ks k=ks:=by
 rw[J35,List.filter_eq_self];intro x hx;have:x≠k:=fun e=>h (e▸hx);simpa using this
def Jbo (ks:List ByteArray) (k:ByteArray):Bool:=ks.any (fun x=>decide (x=k))
theorem Jdd (h:k∈ks):Jbo ks k=true:=List.any_eq_true.2 ⟨k,h,by simp⟩
theorem Jfm (h:k∉ks):Jbo ks k=false:=by
 rw[Jbo,List.any_eq_false];intro x hx e;exact h (by simpa using (of_decide_eq_true e)▸hx)
def J5a (l:Hp) (rb:Nat) (ks:List ByteArray) (key:ByteArray) (w:World) (e:Ending) (w':World):Prop:=
 e= .returned (.bool (!Jbo ks key))/\∃l',Jj l' rb (J35 ks key++[key])/\J1 w l w' l'
theorem J5a.mk {l':Hp} {key:ByteArray} {w':World} {is:Bool} (hi:(!Jbo ks key)=is) (h:Jj l' rb (J35 ks key++[key])) (hs:J1 w l w' l'):
 J5a l rb ks key w (.returned (.bool is)) w':=by subst hi;exact⟨rfl,l',h,hs⟩
theorem J7e (l:Hp) (rb:Nat) (ks:List ByteArray) (key:ByteArray) (w:World) (hR:Jj l rb ks) (ho:Own w l):
 Calls Tryz.prog 125 #[ptr rb,.string key] w (J5a l rb ks key w):=by
 obtain⟨mb,o,ns,m,rfl,rfl,hm,hp,hn⟩:=hR
 have hmn:(m.map Prod.fst).Nodup:=by
  have:(m.map Prod.fst).Perm (ns.map Prod.snd):=by rw[<-J9j];exact hp.map _
  exact this.nodup_iff.2 hn
 have c3:w.cell? ⟨rb,3,none⟩=some (.map (some mb)):=J0 ho.head 3;have hlk:=J39 (P:=Tryz.prog) (t:=108) Tryz.underlying108 Tryz.underlying9 Ja0 ho.tail.head hm key;have hpost:Hid (∀w' l' is,(!Jbo (ns.map Prod.snd) key)=is->Jj l' rb (J35 (ns.map Prod.snd) key++[key])->J1 w (J0a rb mb o ns) w' l'->J5a (J0a rb mb o ns) rb (ns.map Prod.snd) key w (.returned (.bool is)) w'):=fun w' l' is h1 h2 h3=>.mk h1 h2 h3
 rcases J7t ns key with⟨h1,h2⟩|⟨a,p,b,rfl,rfl,h3⟩
 ·rw[J01 hp hmn,h1] at hlk
  simp only[Option.getD_none,Option.isSome_none] at hlk;have hst:=hid (J1.refl ho);have hkd:=J71 h2;have hlm:J7 m key=none:=by rw[J01 hp hmn,h1]
  obtain⟨S1,S1'⟩:∃S:J1 w (J0a rb mb o ns) (w.alloc (.cells #[.string key,.pointer none,.pointer none] 107)) ((w.heap.size,.cells #[.string key,.pointer none,.pointer none] 107)::J0a rb mb o ns),True:=⟨hst.out.alloc _,trivial⟩
  have hmb1:(w.alloc (.cells #[.string key,.pointer none,.pointer none] 107)).heap[mb]? =some o:=S1.own.tail.tail.head;obtain⟨o',hup,hm'⟩:=J6n (P:=Tryz.prog) (t:=108) Tryz.underlying108 Tryz.underlying9 hmb1 hm hmn key (ptr w.heap.size)
  obtain⟨w2,hw2⟩:∃w2:World,w2={(w.alloc (.cells #[.string key,.pointer none,.pointer none] 107)) with heap:=(w.alloc (.cells #[.string key,.pointer none,.pointer none] 107)).heap.setIfInBounds mb o'}:=⟨_,rfl⟩
  rw[<-hw2] at hup
  have S2:J1 w (J0a rb mb o ns) w2 ((w.heap.size,.cells #[.string key,.pointer none,.pointer none] 107)::J0a rb mb o' ns):=by
   have h1:=(S1.permR (l2:=(mb,o)::(w.heap.size,.cells #[.string key,.pointer none,.pointer none] 107)::(rb,J13 (lst ns rb) (hd ns rb) mb)::Js rb ns rb) (List.perm_middle (l₁:=[_,_]))).obj hw2;exact h1.permR (List.perm_middle (l₁:=[_,_])).symm
  have hlast:=hid (Jav S2)
  have hfin:Hid (Jj (J0a rb mb o' (ns++[(w.heap.size,key)])) rb (J35 (ns.map Prod.snd) key++[key])):=by
   refine⟨mb,o',ns++[(w.heap.size,key)],_,rfl,by rw[hkd];simp,hm',?_,?_⟩
   ·rw[J22,hlm]
    simp only[Option.isSome_none,Bool.false_eq_true,if_false,List.map_append,List.map_cons,List.map_nil];exact hp.append_right _
   ·rw[hkd,List.nodup_append]
    refine⟨hn,by simp,?_⟩
    intro x hx y hy
    simp only[List.mem_cons,List.not_mem_nil,or_false] at hy;subst hy;rintro rfl;exact h2 hx
  have c3':(w.alloc (.cells #[.string key,.pointer none,.pointer none] 107)).cell? ⟨rb,3,none⟩=some (.map (some mb)):=J0 S1.own.tail.head 3;have hrl:=Jc ho.head;replace h2:=hid h2;clear hw2 S1 S1' S2 hm' hmb1 hlm hkd hm hp hn hmn h1 ho hst;go_enter Tryz.func125,Tryz.ntmps125;go_wp2_with fail;refine hlast.out.mono ?_;rintro e w3 ⟨rfl,S3⟩;replace S3:=hid S3;go_wp2_with fail;go_ret;exact hpost.out _ _ _ (by rw[Jfm h2.out];rfl) hfin.out S3.out
 ·rw[J01 hp hmn,h3] at hlk
  simp only[Option.getD_some,Option.isSome_some] at hlk;have hst:=J1.refl ho;have hout:=hid (Jdt hst);have hmem:p.2∈(a++p::b).map Prod.snd:=by simp
  have hkd:J35 ((a++p::b).map Prod.snd) p.2=(a++b).map Prod.snd:=by
   have:=hn;simp only[List.map_append,List.map_cons] at this⊢
   exact Jdc this
  have hfin:Hid (Jj (J0a rb mb o ((a++b)++[(p.1,p.2)])) rb (J35 ((a++p::b).map Prod.snd) p.2++[p.2])):=by
   have hpm:((a++b)++[(p.1,p.2)]).Perm (a++p::b):=by
    refine List.Perm.trans ?_ List.perm_middle.symm;exact List.perm_append_comm (l₁:=a++b) (l₂:=[p])
   refine⟨mb,o,(a++b)++[(p.1,p.2)],m,rfl,by rw[hkd];simp,hm,hp.trans (hpm.symm.map _),?_⟩
   rw[hkd]
   have:((a++b).map Prod.snd++[p.2]).Perm ((a++p::b).map Prod.snd):=by
    have:=hpm.map Prod.snd
    simpa using this
   exact this.nodup_iff.2 hn
  replace hmem:=hid hmem;clear hkd h3 hm hp hmn hn ho hst;go_enter Tryz.func125,Tryz.ntmps125;go_wp2_with fail;refine hout.out.mono ?_;rintro e w2 ⟨rfl,S2⟩;have hlast:=hid (Jav S2);clear hlk;go_wp2_with fail;refine hlast.out.mono ?_;rintro e w3 ⟨rfl,S3⟩;replace S3:=hid S3;go_wp2_with fail;go_ret;exact hpost.out _ _ _ (by rw[Jdd hmem.out];rfl) hfin.out S3.out
def J59 (l:Hp) (rb:Nat) (ks:List ByteArray) (key:ByteArray) (w:World) (e:Ending) (w':World):Prop:=
 e= .returned (.bool (Jbo ks key))/\∃l',Jj l' rb (J35 ks key)/\J1 w l w' l'
theorem J59.mk {l':Hp} {key:ByteArray} {w':World} {is:Bool} (hi:Jbo ks key=is) (h:Jj l' rb (J35 ks key)) (hs:J1 w l w' l'):
 J59 l rb ks key w (.returned (.bool is)) w':=by subst hi;exact⟨rfl,l',h,hs⟩
theorem Jas (l:Hp) (rb:Nat) (ks:List ByteArray) (key:ByteArray) (w:World) (hR:Jj l rb ks) (ho:Own w l):
 Calls Tryz.prog 118 #[ptr rb,.string key] w (J59 l rb ks key w):=by
 obtain⟨mb,o,ns,m,rfl,rfl,hm,hp,hn⟩:=hR
 have hmn:(m.map Prod.fst).Nodup:=by
  have:(m.map Prod.fst).Perm (ns.map Prod.snd):=by rw[<-J9j];exact hp.map _
  exact this.nodup_iff.2 hn
 have c3:w.cell? ⟨rb,3,none⟩=some (.map (some mb)):=J0 ho.head 3;have hlk:=J39 (P:=Tryz.prog) (t:=108) Tryz.underlying108 Tryz.underlying9 Ja0 ho.tail.head hm key;have hpost:Hid (∀w' l' is,Jbo (ns.map Prod.snd) key=is->Jj l' rb (J35 (ns.map Prod.snd) key)->J1 w (J0a rb mb o ns) w' l'->J59 (J0a rb mb o ns) rb (ns.map Prod.snd) key w (.returned (.bool is)) w'):=fun w' l' is h1 h2 h3=>.mk h1 h2 h3
 rcases J7t ns key with⟨h1,h2⟩|⟨a,p,b,rfl,rfl,h3⟩
 ·rw[J01 hp hmn,h1] at hlk
  simp only[Option.getD_none,Option.isSome_none] at hlk;have hfin:Hid (Jj (J0a rb mb o ns) rb (J35 (ns.map Prod.snd) key)):=⟨mb,o,ns,m,rfl,J71 h2,hm,hp,by rw[J71 h2];exact hn⟩
  have hst:=hid (J1.refl ho);replace h2:=hid h2;clear h1 hm hp hn hmn ho;go_enter Tryz.func118,Tryz.ntmps118;go_wp2_with fail;go_ret;exact hpost.out _ _ _ (Jfm h2.out) hfin.out hst.out
 ·rw[J01 hp hmn,h3] at hlk
  simp only[Option.getD_some,Option.isSome_some] at hlk;have hout:=hid (Jdt (J1.refl ho));have hmem:=hid (show p.2∈(a++p::b).map Prod.snd by simp)
  have hkd:J35 ((a++p::b).map Prod.snd) p.2=(a++b).map Prod.snd:=by
   have:=hn;simp only[List.map_append,List.map_cons] at this⊢
   exact Jdc this
  have hm':=hid hm;have hp':=hid hp;have hn':=hid hn;have hkd':=hid hkd;have hmn':=hid hmn;have hne:=ho.nd;clear hkd h3 hm hp hmn hn ho;go_enter Tryz.func118,Tryz.ntmps118;go_wp2_with fail;refine hout.out.mono ?_;rintro e w2 ⟨rfl,S2⟩;have c3':w2.cell? ⟨rb,3,none⟩=some (.map (some mb)):=J0 S2.own.tail.head 3;obtain⟨o',hdel,hm2⟩:=J8k (P:=Tryz.prog) (t:=108) Tryz.underlying108 Tryz.underlying9 0 S2.own.tail.tail.head hm'.out hmn'.out p.2 9
  obtain⟨w3,hw3⟩:∃w3:World,w3={w2 with heap:=w2.heap.setIfInBounds mb o'}:=⟨_,rfl⟩
  rw[<-hw3] at hdel
  have S3:J1 w (J0a rb mb o (a++p::b)) w3 (J0a rb mb o' (a++b)):=by
   have h1:=(S2.permR (l2:=(mb,o)::(p.1,J0i p.2 (lst a rb) (hd b rb))::(rb,J13 (lst (a++b) rb) (hd (a++b) rb) mb)::Js rb (a++b) rb) (List.perm_middle (l₁:=[_,_]))).obj hw3;have h2:=h1.permR (l2:=(p.1,J0i p.2 (lst a rb) (hd b rb))::(rb,J13 (lst (a++b) rb) (hd (a++b) rb) mb)::(mb,o')::Js rb (a++b) rb) (List.perm_middle (l₁:=[_,_])).symm;exact h2.less (List.sublist_cons_self _ _)
  have hfin:Hid (Jj (J0a rb mb o' (a++b)) rb (J35 ((a++p::b).map Prod.snd) p.2)):=by
   refine⟨mb,o',a++b,_,rfl,hkd'.out,hm2,?_,by rw[hkd'.out];have h0:=hn'.out;simp only[List.map_append,List.map_cons] at h0⊢;exact(List.nodup_cons.1 (List.perm_middle.nodup_iff.1 h0)).2⟩
   have h1:=hp'.out.filter (fun q=>decide (q.1≠p.2))
   refine List.Perm.trans h1 (List.Perm.of_eq ?_);have h0:=hn'.out;simp only[List.map_append,List.map_cons] at h0;have h0:=List.perm_middle.nodup_iff.1 h0;rw[List.nodup_cons] at h0;simp only[List.map_append,List.map_cons,List.filter_append,List.filter_cons]
   have hx:∀c:List Nd,(∀q∈c,q.2≠p.2)->(c.map J4v).filter (fun q=>decide (q.1≠p.2))=c.map J4v:=by
    intro c hc
    rw[List.filter_eq_self];intro q hq
    obtain⟨r,hr,rfl⟩:=List.mem_map.1 hq
    have h9:=hc r hr;exact decide_eq_true h9
   rw[hx a (fun q hq e=>h0.1 (by rw[<-e];exact List.mem_append_left _ (List.mem_map_of_mem hq))),hx b (fun q hq e=>h0.1 (by rw[<-e];exact List.mem_append_right _ (List.mem_map_of_mem hq)))]
   simp[J4v]
  replace S3:=hid S3;clear hlk hw3 hm2 S2;go_wp2_with fail;go_ret;exact hpost.out _ _ _ (Jdd hmem.out) hfin.out S3.out
def Kx (ks:List ByteArray) (but:ByteArray):ByteArray×Bool:=match ks with
 |[]=>(ByteArray.empty,false)
 |k::r=>if k=but then(match r with
  |[]=>(ByteArray.empty,false)
  |k2::_=>(k2,true)) else(k,true)
theorem Jby {P:Program} (w:World) {tp te:TypeId} {j:TypeInfo} (a:Addr) (hp:P.underlying tp=some (.pointer te)) (hte:P.info? te=some j):
 (binOp .neq tp (.pointer (some a)) (.pointer (some a))).run P w= .ok (.bool false) w:=by
 have h:∀d:Nat,(Op.equalIn (d+1) tp (.pointer (some a)) (.pointer (some a))).run P w= .ok true w:=fun d=>by
  simp[Op.equalIn,run_underlying hp,sizeOf,typeInfo,hte,run_sameAddr_same]
 simp only[binOp];simp[Op.equal,Op.maxDepth,h 9999]
theorem Ja1 {P:Program} (w:World) {tp te:TypeId} {j:TypeInfo} {a b:Addr} {ca cb:Array Value} {ta tb:TypeId} (hp:P.underlying tp=some (.pointer te)) (hte:P.info? te=some j) (hsz:j.size≠0)
 (hne:a≠b) (ha:w.heap[a.block]? =some (.cells ca ta (0,0))) (hb:w.heap[b.block]? =some (.cells cb tb (0,0))):
  (binOp .neq tp (.pointer (some a)) (.pointer (some b))).run P w= .ok (.bool true) w:=by
  have h:∀d:Nat,(Op.equalIn (d+1) tp (.pointer (some a)) (.pointer (some b))).run P w= .ok false w:=fun d=>by
   simp[Op.equalIn,run_underlying hp,sizeOf,typeInfo,hte,hsz,run_sameAddr_other w hne ha hb]
  simp only[binOp];simp[Op.equal,Op.maxDepth,h 9999]
theorem Jde:∃j,Tryz.prog.info? 107=some j/\j.size≠0:=by
 have h:(Tryz.prog.info? 107).map (fun i=>i.size)=some 3:=by kernel_rfl
 obtain⟨j,hj,hs⟩:=Option.map_eq_some_iff.1 h
 exact⟨j,hj,by rw[hs];decide⟩
theorem Jgk (a:Addr) (w:World):(binOp .neq 105 (.pointer (some a)) (.pointer (some a))).run Tryz.prog w= .ok (.bool false) w:=by
 obtain⟨j,hj,_⟩:=Jde
 exact Jby w a Tryz.underlying105 hj
theorem J9e {a b:Nat} {oa ob:Obj} (hne:a≠b) (ha:w.heap[a]? =some oa) (hb:w.heap[b]? =some ob) (ca:∃c t,oa= .cells c t (0,0)) (cb:∃c t,ob= .cells c t (0,0)):
 ∀n,(binOp .neq 105 (ptr a) (ptr b)).run Tryz.prog (w.drewN n)= .ok (.bool true) (w.drewN n):=by
 intro n
 obtain⟨j,hj,hs⟩:=Jde
 obtain⟨c,t,rfl⟩:=ca
 obtain⟨c',t',rfl⟩:=cb
 exact Ja1 (w.drewN n) Tryz.underlying105 hj hs (fun e=>hne (congrArg Addr.block e)) ha hb
theorem Jew (l:Hp) (rb:Nat) (ks:List ByteArray) (but:ByteArray) (w:World) (hR:Jj l rb ks) (ho:Own w l):
 Calls Tryz.prog 124 #[ptr rb,.string but] w fun e w'=>e= .returned (.tuple #[.string (Kx ks but).1,.bool (Kx ks but).2])/\∃n,w'=w.drewN n:=by
 obtain⟨mb,o,ns,m,rfl,rfl,hm,hp,hn⟩:=hR
 have c0:w.cell? ⟨rb,0,none⟩=some (.string ByteArray.empty):=J0 ho.head 0;have c2:w.cell? ⟨rb,2,none⟩=some (ptr (hd ns rb)):=J0 ho.head 2;have hsame:=Jgk ⟨rb,0,none⟩;cases ns with
 |nil=>
  simp only[J98] at c2;clear hm hp hn ho;go_enter Tryz.func124,Tryz.ntmps124;go_wp2_with fail;go_quiet (fail);go_wp2_with fail;go_ret2;exact⟨rfl,_,rfl⟩
 |cons p r=>
  have hnd:=ho.nd;simp only[J0v,J0a,J9b,List.map_cons,List.nodup_cons,List.mem_cons,not_or] at hnd;have hne:¬p.1=rb:=fun e=>hnd.1.2.1 e.symm
  have hpo:w.heap[p.1]? =some (J0i p.2 rb (hd r rb)):=J79 (a:=[]) ho;have d0:w.cell? ⟨p.1,0,none⟩=some (.string p.2):=J0 hpo 0;have d2:w.cell? ⟨p.1,2,none⟩=some (ptr (hd r rb)):=J0 hpo 2;simp only[J44] at c2;have hoth:=J9e (fun e=>hnd.1.2.1 e.symm) hpo ho.head ⟨_,_,rfl⟩ ⟨_,_,rfl⟩
  have hoth0:=hoth 0;rw[World.drewN_zero] at hoth0;by_cases hb:p.2=but
  ·have ht:=Jc2 hb
   cases r with
   |nil=>
    simp only[J98] at d2;have hol:Kx ([p].map Prod.snd) but=(ByteArray.empty,false):=by simp[Kx,hb]
    rw[hol];clear hm hp hn ho hol hb hnd hpo;go_enter Tryz.func124,Tryz.ntmps124;go_wp2_with fail;go_quiet (fail);go_wp2_with fail;go_ret2;exact⟨rfl,_,rfl⟩
   |cons q r=>
    have hpq:w.heap[q.1]? =some (J0i q.2 p.1 (hd r rb)):=J79 (a:=[p]) ho;have e0:w.cell? ⟨q.1,0,none⟩=some (.string q.2):=J0 hpq 0;have hne2:¬q.1=rb:=fun e=>hnd.1.2.2 (by simp[e])
    simp only[J44] at d2;have hoth2:=J9e hne2 hpq ho.head ⟨_,_,rfl⟩ ⟨_,_,rfl⟩;have hoth20:=hoth2 0;rw[World.drewN_zero] at hoth20;have hol:Kx ((p::q::r).map Prod.snd) but=(q.2,true):=by simp[Kx,hb]
    rw[hol];clear hm hp hn ho hol hb hnd hpo hpq;go_enter Tryz.func124,Tryz.ntmps124;go_wp2_with fail;go_quiet (fail);go_wp2_with fail;go_ret2;exact⟨rfl,_,rfl⟩
  ·have ht:=J6o hb
   have hol:Kx ((p::r).map Prod.snd) but=(p.2,true):=by simp[Kx,hb]
   rw[hol];clear hm hp hn ho hol hb hnd hpo;go_enter Tryz.func124,Tryz.ntmps124;go_wp2_with fail;go_quiet (fail);go_wp2_with fail;go_ret2;exact⟨rfl,_,rfl⟩
theorem J9l (rb:Nat) (x1 x2 x3:Value) (l0:Hp) (w0 w:World) (hS:J1 w0 l0 w [(rb,.cells #[.string ByteArray.empty,x1,x2,x3] 110 (0,0))]):
 Calls Tryz.prog 45 #[ptr rb] w fun e w'=>e= .returned (.tuple #[])/\∃l',Jj l' rb []/\J1 w0 l0 w' l':=by
 have hb:=hS.own.head;have c1:w.cell? ⟨rb,1,none⟩=some x1:=J0 hb 1;have c2:w.cell? ⟨rb,2,none⟩=some x2:=J0 hb 2;have c3:w.cell? ⟨rb,3,none⟩=some x3:=J0 hb 3;have f1:∀j,w.frozen? ⟨rb,j,none⟩=false:=fun j=>J6 hb j
 have hlt:=Jc hb;have hmm:=@run_makeMap Tryz.prog;have hst:=hid hS;clear hS hb;go_enter Tryz.func45,Tryz.ntmps45;go_wp2_with fail;go_region
 go_wp2_with fail;go_end0
 refine⟨rfl,J0a rb w.heap.size (.map #[] 0) [],⟨_,_,[],[],rfl,rfl,Kz.empty,List.Perm.refl _,List.nodup_nil⟩,?_⟩
 have h1:=(((((hst.out.set 3 (.map (some w.heap.size))).set 1 (ptr rb)).set 2 (ptr rb)).alloc (.map #[] 0)).drew).permR (List.Perm.swap _ _ _);have e:(((w.setCell ⟨rb,3,none⟩ (.map (some w.heap.size))).setCell ⟨rb,1,none⟩ (ptr rb)).setCell ⟨rb,2,none⟩ (ptr rb)).heap.size=w.heap.size:=by simp
 rw[e] at h1;exact h1
theorem Jds (w:World):Calls Tryz.prog 27 #[] w fun e w'=>∃rb l',e= .returned (ptr rb)/\Jj l' rb []/\J1 w [] w' l':=by
 have S1:=(J1.refl (Own.nil w)).alloc (.cells #[.string ByteArray.empty,.pointer none,.pointer none,.map none] 110);have hcl:=hid (J9l w.heap.size _ _ _ [] w _ S1);clear S1;go_enter Tryz.func27,Tryz.ntmps27;go_wp2_with fail;refine hcl.out.mono ?_;rintro e w2 ⟨rfl,l',hR,S2⟩;replace hR:=hid hR;replace S2:=hid S2;go_wp2_with fail;go_ret;exact⟨_,l',rfl,hR.out,S2.out⟩
end Go.Proofs.YtefjbegnlolgbaaGreatDoor
