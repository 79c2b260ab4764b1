/-
container/heap's Push, Remove and Fix over expiry's row.
-/
import Derived.LaidEqlPtr
import Derived.Test.YtncbcaabanoeoaaGreatDoorQ06
set_option linter.unusedVariables false
set_option linter.unusedSimpArgs false
set_option maxRecDepth 100000
set_option maxHeartbeats 8000000
namespace Go.Proofs.YtncbcaabanoeoaaGreatDoor
open Go Go.RowKit
variable {w0 w:World}{l r sl:Hp}{xb mb i rb:Nat}{x:En}{es:List En}{ns:List Nd}{o:Obj}{k:ByteArray}{ks:List ByteArray}
theorem J9u (a:Option Addr) (n c:Nat) (w:World):Calls Tryz.prog 323 #[.slice a n c] w fun e w'=>e= .returned (.int .i64 n)/\w=w':=by
 go_enter Tryz.func323,Tryz.ntmps323;go_wp2_with fail;go_ret;exact⟨rfl,rfl⟩
def Jd1 (w0:World) (l:Hp) (xb mb:Nat) (r:Hp) (es0:List En) (w':World):Prop:=
 ∃rv' sl' es',es'.Perm es0/\J0r rv' sl' es'/\J3 w0 l w' (K9 xb mb rv' sl' es'++r)
theorem Jql {eb:Nat} {t:Int} {key:ByteArray} {x:Value} {rv:Value}
 (hS:J3 w0 l w ((eb,.cells #[.int .i64 t,.string key,x] 236 (0,0))::(K9 xb mb rv sl es++r))) (hat:J0r rv sl es) (hB:es.length<1099511627776):
  Calls Tryz.prog 188 #[Jus xb,.iface 229 (J2y eb)] w fun e w'=>e= .returned (.tuple #[])/\Jd1 w0 l xb mb r (es++[⟨eb,t,key⟩]) w':=by
  have hpush:=hid (Jug hS hat (by omega))
  have hmp:=Jk4 xb;have hml:=fun v=>J9q xb v
  clear hS hat;go_enter Tryz.func188,Tryz.ntmps188;go_wp2_with fail;refine hpush.out.mono ?_;rintro e w2 ⟨rfl,rv',sl',hat2,S2⟩;have hlen:(es++[(⟨eb,t,key⟩:En)]).length=es.length+1:=by simp
  rcases hat2.rv with⟨h,_⟩|⟨g,cap,rfl,hc1,hc2⟩
  ·simp at h
  have c0:w2.cell? ⟨xb,0,none⟩=some (.slice (some ⟨g,0,none⟩) (es++[(⟨eb,t,key⟩:En)]).length cap):=J2 S2.own.head 0;have hup:=hid (Jny (j:=es.length) S2 hat2 (by rw[hlen];omega) (by rw[hlen];omega))
  rw[hlen] at c0 hup;have hlenc:=hid (J9u (some ⟨g,0,none⟩) (es.length+1) cap w2);clear hpush hmp S2 hat2 hlen;go_wp2_with fail;refine hlenc.out.mono ?_;rintro e w3 ⟨rfl,rfl⟩;go_wp2_with fail;refine hup.out.mono ?_;rintro e w4 ⟨rfl,sl4,es4,⟨hp4,_⟩,hat4,S4⟩;replace hp4:=hid hp4;replace hat4:=hid hat4;replace S4:=hid S4;go_wp2_with fail;go_end0
  exact⟨rfl,_,sl4,es4,hp4.out,hat4.out,S4.out⟩
theorem Jt9 {rv:Value}
 (hS:J3 w0 l w (K9 xb mb rv sl es++r)) (hat:J0r rv sl es) (hi:i<es.length) (hB:es.length<=1099511627776):
  Calls Tryz.prog 187 #[Jus xb,.int .i64 i] w fun e w'=>e= .returned (.tuple #[])/\Jd1 w0 l xb mb r es w':=by
  rcases hat.rv with⟨h,_⟩|⟨g,cap,rfl,hc1,hc2⟩
  ·subst h;simp at hi
  have c0:w.cell? ⟨xb,0,none⟩=some (.slice (some ⟨g,0,none⟩) es.length cap):=J2 hS.own.head 0;have hdown:=hid (Jj8 (i:=i) (m:=es.length) hS hat (by omega) (Nat.le_refl _) hB)
  have hlenc:=hid (J9u (some ⟨g,0,none⟩) es.length cap w);have hml:=J9q xb (.slice (some ⟨g,0,none⟩) es.length cap);clear hS hat;go_enter Tryz.func187,Tryz.ntmps187;go_wp2_with fail;refine hlenc.out.mono ?_;rintro e w3 ⟨rfl,rfl⟩;go_wp2_with fail;refine hdown.out.mono ?_;rintro e w4 ⟨⟨b,rfl⟩,sl4,es4,⟨hp4,_⟩,hat4,S4⟩;have hlen4:=hp4.length_eq;clear hdown hlenc;cases b with
  |true=>
   replace hp4:=hid hp4;replace hat4:=hid hat4;replace S4:=hid S4;replace hlen4:=hid hlen4;go_wp2_with fail;go_end0
   exact⟨rfl,_,sl4,es4,hp4.out,hat4.out,S4.out⟩
  |false=>
   have hup:=hid (Jny (j:=i) S4 hat4 (by omega) (by omega))
   replace hp4:=hid hp4;replace hat4:=hid hat4;replace S4:=hid S4;replace hlen4:=hid hlen4;go_wp2_with fail;refine hup.out.mono ?_;rintro e w5 ⟨rfl,sl5,es5,⟨hp5,_⟩,hat5,S5⟩;replace hp5:=hid hp5;replace hat5:=hid hat5;replace S5:=hid S5;go_wp2_with fail;go_end0
   exact⟨rfl,_,sl5,es5,hp5.out.trans hp4.out,hat5.out,S5.out⟩
theorem Jhu {n:Nat} (h:es.drop n=[x]):es=es.take n++[x]:=by
 rw[<-h,List.take_append_drop]
theorem Jnq {n:Nat} {z:En} (hin:i<n) (hn:n+1=es.length) (hz:es[i]? =some z):(J5i es i n).drop n=[z]:=by
 obtain⟨A,x,B,y,C,rfl,rfl,rfl⟩:=Jbw (es:=es) hin (by omega)
 obtain rfl:x=z:=by simpa using hz
 have hC:C=[]:=by
  simp only[List.length_append,List.length_cons] at hn;exact List.eq_nil_of_length_eq_zero (by omega)
 subst hC;rw[J8f];have:A++y::(B++[x])=(A++y::B)++[x]:=by simp
 rw[this];exact List.drop_left' (by simp;omega)
def J6u (w0:World) (l:Hp) (xb mb:Nat) (r:Hp) (es:List En) (x:En) (e:Ending) (w':World):Prop:=
 e= .returned (.iface 229 (J2y x.b))/\∃rv' sl' es',(es'++[x]).Perm es/\J0r rv' sl' es'/\J3 w0 l w' ((x.b,J25 x es'.length)::(K9 xb mb rv' sl' es'++r))
theorem J8a {g n cap:Nat} {es0:List En}
 (hS:J3 w0 l w (K9 xb mb (.slice (some ⟨g,0,none⟩) n cap) sl es++r)) (hat:J0r (.slice (some ⟨g,0,none⟩) n cap) sl es) (hx:es.drop (es.length - 1)=[x]) (hp:es.Perm es0) (hB:es.length<=1099511627776):
  Calls Tryz.prog 333 #[.pointer (some ⟨xb,0,none⟩)] w (J6u w0 l xb mb r es0 x):=by
  have e1:=Jhu hx;have hlen:(es.take (es.length - 1)).length<1099511627776:=by
   have:0<es.length:=by
    rcases Nat.eq_zero_or_pos es.length with h|h
    ·rw[List.eq_nil_of_length_eq_zero h] at hx;cases hx
    ·exact h
   simp;omega
  rw[e1] at hS hat hp;refine(Jwz hS hat hlen).mono ?_
  rintro e w' ⟨he,rv',sl',hat',S'⟩;exact⟨he,rv',sl',_,hp,hat',S'⟩
theorem Jjr {rv:Value}
 (hS:J3 w0 l w (K9 xb mb rv sl es++r)) (hat:J0r rv sl es) (hx:es[i]? =some x) (hB:es.length<=1099511627776):
  Calls Tryz.prog 166 #[Jus xb,.int .i64 i] w (J6u w0 l xb mb r es x):=by
  have hi:i<es.length:=(List.getElem?_eq_some_iff.1 hx).1;rcases hat.rv with⟨h,_⟩|⟨g,cap,rfl,hc1,hc2⟩
  ·subst h;simp at hi
  have c0:w.cell? ⟨xb,0,none⟩=some (.slice (some ⟨g,0,none⟩) es.length cap):=J2 hS.own.head 0;have hlenc:=hid (J9u (some ⟨g,0,none⟩) es.length cap w);have hml:=J9q xb (.slice (some ⟨g,0,none⟩) es.length cap);have hms:=J84 xb (.slice (some ⟨g,0,none⟩) es.length cap);have hmp:=Jmu xb;generalize hm:es.length=m at *;by_cases hlast:i+1=m
  ·have hpop:=hid (J8a (x:=x) hS hat (by rw[hm,show m - 1=i by omega,List.drop_eq_getElem_cons (by omega),List.drop_of_length_le (by omega),(List.getElem?_eq_some_iff.1 hx).2]) (List.Perm.refl _) (by omega))
   have hq:(((m:Int) - 1) !=(i:Int))=false:=by rw[bne_eq_false_iff_eq];omega
   clear hS hat;replace hm:=hid hm;replace hlast:=hid hlast;replace hx:=hid hx;have hrem:Hid (∀e w',J6u w0 l xb mb r es x e w'->∃v,e= .returned v/\J6u w0 l xb mb r es x (.returned v) w'):=fun e w' h=>⟨_,h.1,rfl,h.2⟩
   go_enter Tryz.func166,Tryz.ntmps166;go_wp2_with fail;refine hlenc.out.mono ?_;rintro e w3 ⟨rfl,rfl⟩;go_wp2_with fail;refine hpop.out.mono ?_;intro e w4 hR
   obtain⟨v,rfl,hR'⟩:=hrem.out _ _ hR
   replace hR':=hid hR';clear hR hrem;go_wp2_with fail;go_ret;exact hR'.out
  ·obtain⟨n,rfl⟩:∃n,m=n+1:=⟨m - 1,by omega⟩
   have hin:i<n:=by omega
   have hq:((n:Int) !=(i:Int))=true:=by rw[bne_iff_ne];omega
   have hnn:(((n+1:Nat):Int) - 1)=(n:Int):=by omega
   have hswap:=hid (J6g (i:=i) (j:=n) hS hat hin (by omega))
   clear hS hat;replace hm:=hid hm;replace hx:=hid hx;have hrem:Hid (∀e w',J6u w0 l xb mb r es x e w'->∃v,e= .returned v/\J6u w0 l xb mb r es x (.returned v) w'):=fun e w' h=>⟨_,h.1,rfl,h.2⟩
   go_enter Tryz.func166,Tryz.ntmps166;go_wp2_with fail;refine hlenc.out.mono ?_;rintro e w3 ⟨rfl,rfl⟩;go_wp2_with fail;refine hswap.out.mono ?_;rintro e w4 ⟨rfl,sl4,hat4,S4⟩;have hl4:(J5i es i n).length=n+1:=by rw[J6p];exact hm.out
   have hd4:=Jnq hin hm.out.symm hx.out;have hp4:=J5j (es:=es) hin (by rw[hm.out];omega)
   have hdown:=hid (Jj8 (i:=i) (m:=n) S4 hat4 (by omega) (by omega) (by omega))
   clear hswap hlenc;replace hd4:=hid hd4;replace hp4:=hid hp4;replace hl4:=hid hl4;clear hat4 S4;go_wp2_with fail;refine hdown.out.mono ?_;rintro e w5 ⟨⟨b,rfl⟩,sl5,es5,⟨hp5,hd5⟩,hat5,S5⟩;have hl5:=hp5.length_eq.trans hl4.out;clear hdown;cases b with
   |true=>
    have hpop:=hid (J8a (x:=x) S5 hat5 (by rw[hl5,show n+1 - 1=n by omega,hd5];exact hd4.out) (hp5.trans hp4.out) (by omega))
    clear S5 hat5 hd5 hp5;replace hl5:=hid hl5;go_wp2_with fail;refine hpop.out.mono ?_;intro e w6 hR
    obtain⟨v,rfl,hR'⟩:=hrem.out _ _ hR
    replace hR':=hid hR';clear hR hrem;go_wp2_with fail;go_ret;exact hR'.out
   |false=>
    have hup:=hid (Jny (j:=i) S5 hat5 (by omega) (by omega))
    replace hp5:=hid hp5;replace hd5:=hid hd5;replace hl5:=hid hl5;clear S5 hat5;go_wp2_with fail;refine hup.out.mono ?_;rintro e w6 ⟨rfl,sl6,es6,⟨hp6,hd6⟩,hat6,S6⟩;have hl6:=hp6.length_eq.trans hl5.out;have hd6':es6.drop n=[x]:=by
     have h1:es6.drop n=(es6.drop (i+1)).drop (n - (i+1)):=by rw[List.drop_drop];congr 1;omega
     have h2:es5.drop n=(es5.drop (i+1)).drop (n - (i+1)):=by rw[List.drop_drop];congr 1;omega
     rw[h1,hd6,<-h2,hd5.out];exact hd4.out
    have hpop:=hid (J8a (x:=x) S6 hat6 (by rw[hl6,show n+1 - 1=n by omega];exact hd6') (hp6.trans (hp5.out.trans hp4.out)) (by omega))
    clear S6 hat6 hd6 hp6 hd6' hup;replace hl6:=hid hl6;go_wp2_with fail;refine hpop.out.mono ?_;intro e w7 hR
    obtain⟨v,rfl,hR'⟩:=hrem.out _ _ hR
    replace hR':=hid hR';clear hR hrem;go_wp2_with fail;go_ret;exact hR'.out
theorem Jr3 {q:Nat} (hq:q∈ns.map Prod.fst) (prev fin:Nat):∃k a n,(q,J1k k a n)∈Kw prev ns fin:=by
 induction ns generalizing prev with
 |nil=>cases hq
 |cons p ns ih=>
  rcases List.mem_cons.1 hq with rfl|hq
  ·exact⟨_,_,_,List.mem_cons_self ..⟩
  ·obtain⟨k,a,n,h⟩:=ih hq p.1
   exact⟨k,a,n,List.mem_cons_of_mem _ h⟩
theorem Jyk (ns:List Nd) (r:Nat):hd ns r=r\/hd ns r∈ns.map Prod.fst:=by
 cases ns with
 |nil=>exact .inl rfl
 |cons p ns=>exact .inr (by simp[hd])
theorem Jhx (ns:List Nd) (r:Nat):lst ns r=r\/lst ns r∈ns.map Prod.fst:=by
 induction ns generalizing r with
 |nil=>exact .inl rfl
 |cons p ns ih=>
  rcases ih p.1 with h|h
  ·exact .inr (by rw[J59,h];simp)
  ·exact .inr (by rw[J59];simp[h])
theorem Je9 (ns:List Nd) (x y:Nat):keys (Kw x ns y)=ns.map Prod.fst:=by
 induction ns generalizing x with
 |nil=>rfl
 |cons p ns ih=>simp[J45,ih]
structure Jy1 (w:World) (q:Nat):Prop where
 c1:∃x,w.cell? ⟨q,1,none⟩=some x
 c2:∃x,w.cell? ⟨q,2,none⟩=some x
 fz:∀i,w.frozen? ⟨q,i,none⟩=false
theorem J9t (h:Own w (J19 rb mb o ns++r)) {q:Nat} (hq:q=rb\/q∈ns.map Prod.fst):Jy1 w q:=by
 rcases hq with rfl|hq
 ·have:=h.left.head
  exact⟨⟨_,J2 this 1⟩,⟨_,J2 this 2⟩,fun i=>Jg this i⟩
 ·obtain⟨k,a,n,hm⟩:=Jr3 hq rb rb
  have:=h.left.at_ _ (List.mem_cons_of_mem _ (List.mem_cons_of_mem _ hm))
  exact⟨⟨_,J2 this 1⟩,⟨_,J2 this 2⟩,fun i=>Jg this i⟩
theorem Jbk {a b:List Nd} {p:Nd} (h:Own w (J19 rb mb o (a++p::b))):w.heap[p.1]? =some (J1k p.2 (lst a rb) (hd b rb)):=by
 refine h.at_ (p.1,_) ?_;rw[J19,Jgb];simp
theorem Jkt {a b:List Nd} {p:Nd} (h:J3 w0 l w (J19 rb mb o (a++p::b))):
 Calls Tryz.prog 140 #[ptr p.1] w fun e w'=>e= .returned (.tuple #[])/\J3 w0 l w' ((p.1,J1k p.2 (lst a rb) (hd b rb))::J19 rb mb o (a++b)):=by
 have hn:=Jbk h.own;have ha:=J9t (r:=[]) (by simpa using h.own) (q:=lst a rb) ((Jhx a rb).imp id (by intro h;simp at h⊢;exact .inl h))
 have hb:=J9t (r:=[]) (by simpa using h.own) (q:=hd b rb) ((Jyk b rb).imp id (by intro h;simp at h⊢;exact .inr (.inr h)))
 obtain⟨x,hx⟩:=ha.c2
 obtain⟨y,hy⟩:=hb.c1
 refine(Jwv p.1 (lst a rb) (hd b rb) x y w (J2 hn 1) (J2 hn 2) hx hy (ha.fz 2) (hb.fz 1)).mono ?_
 rintro e w' ⟨he,rfl⟩;exact⟨he,(Jul h).drew⟩
theorem Jgg {b:Nat} {x1 x2:Value} (h:J3 w0 l w ((b,.cells #[.string k,x1,x2] 97 (0,0))::J19 rb mb o ns)):
 Calls Tryz.prog 141 #[ptr rb,ptr b] w fun e w'=>e= .returned (.tuple #[])/\J3 w0 l w' (J19 rb mb o (ns++[(b,k)])):=by
 have hb:=h.own.head;have hr:=h.own.tail.head;have hnd:=h.own.nd;simp only[J0y,J19,Je9,List.nodup_cons,List.mem_cons,not_or] at hnd;have hq:=J9t (r:=[]) (by simpa using h.own.tail) (q:=lst ns rb) (Jhx ns rb)
 obtain⟨y,hy⟩:=hq.c2
 have hnq:b≠lst ns rb:=by
  intro e
  rcases Jhx ns rb with h'|h'
  ·exact hnd.1.1 (e.trans h')
  ·exact hnd.1.2.2 (e▸h')
 refine(Jtq rb b (lst ns rb) x1 x2 y w hnd.1.1 hnq (J2 hb 1) (J2 hb 2) (J2 hr 1) hy (Jg hb 1) (Jg hb 2) (hq.fz 2) (Jg hr 1)).mono ?_
 rintro e w' ⟨he,rfl⟩;exact⟨he,(Jro h).drew.drew⟩
theorem Jls (w:World):(zeroValue 95).run Tryz.prog w= .ok (.pointer none) w:=by kernel_rfl
theorem J0u {α:Type} {m m':AL α} (hp:m.Perm m') (hn:(m.map Prod.fst).Nodup) (k:ByteArray):Je m k=Je m' k:=by
 have hn':(m'.map Prod.fst).Nodup:=(hp.map Prod.fst).nodup_iff.1 hn;have key:∀(l:AL α),(l.map Prod.fst).Nodup->∀v,Je l k=some v ↔ (k,v)∈l:=by
  intro l hl v
  induction l with
  |nil=>simp[Je]
  |cons p l ih=>
   simp only[List.map_cons,List.nodup_cons] at hl;simp only[Je,List.find?_cons] at ih⊢;by_cases hk:p.1=k
   ·simp only[hk,decide_true,Option.map_some,Option.some.injEq,List.mem_cons]
    constructor
    ·intro h;left;rw[<-h,<-hk]
    ·rintro (h|h)
     ·rw[<-h]
     ·exact absurd (List.mem_map.2 ⟨_,h,rfl⟩) (hk▸hl.1)
   ·simp only[hk,decide_false,List.mem_cons]
    rw[ih hl.2];constructor
    ·exact .inr
    ·rintro (h|h)
     ·exact absurd (by rw[<-h]) hk
     ·exact h
 cases h1:Je m k with
 |some v=>exact((key m' hn' v).2 (hp.mem_iff.1 ((key m hn v).1 h1))).symm
 |none=>
  cases h2:Je m' k with
  |none=>rfl
  |some v=>
   have:=(key m hn v).2 (hp.mem_iff.2 ((key m' hn' v).1 h2))
   rw[h1] at this;cases this
theorem Jce (ns:List Nd) (key:ByteArray):(Je (ns.map J85) key=none/\key∉ns.map Prod.snd)\/∃a p b,ns=a++p::b/\p.2=key/\Je (ns.map J85) key=some (ptr p.1):=by
 induction ns with
 |nil=>exact .inl ⟨rfl,by simp⟩
 |cons q ns ih=>
  by_cases hq:q.2=key
  ·refine .inr ⟨[],q,ns,rfl,hq,?_⟩
   simp[Je,J85,hq]
  ·rcases ih with⟨h1,h2⟩|⟨a,p,b,h1,h2,h3⟩
   ·refine .inl ⟨?_,by simp only[List.map_cons,List.mem_cons,not_or];exact⟨fun e=>hq e.symm,h2⟩⟩
    simpa[Je,J85,hq] using h1
   ·refine .inr ⟨q::a,p,b,by rw[h1];rfl,h2,?_⟩
    simpa[Je,J85,hq] using h3
theorem Jeg (ns:List Nd):(ns.map J85).map Prod.fst=ns.map Prod.snd:=by simp[J85,Function.comp_def]
def J62 (ks:List ByteArray) (k:ByteArray):List ByteArray:=ks.filter (fun x=>decide (x≠k))
theorem Jjx {a b:List ByteArray} (h:(a++k::b).Nodup):J62 (a++k::b) k=a++b:=by
 rw[List.nodup_append] at h;have h2:=h.2.1;rw[List.nodup_cons] at h2;have ha:a.filter (fun x=>decide (x≠k))=a:=by
  rw[List.filter_eq_self];intro x hx;have:=h.2.2 x hx k (by simp);simpa using this
 have hb:b.filter (fun x=>decide (x≠k))=b:=by
  rw[List.filter_eq_self];intro x hx;have:x≠k:=fun e=>h2.1 (e▸hx);simpa using this
 simp only[J62,List.filter_append,List.filter_cons,ha,hb];simp
theorem Jb8 (h:k∉ks):J62 ks k=ks:=by
 rw[J62,List.filter_eq_self];intro x hx;have:x≠k:=fun e=>h (e▸hx);simpa using this
def Jqx (ks:List ByteArray) (k:ByteArray):Bool:=ks.any (fun x=>decide (x=k))
theorem Jjy (h:k∈ks):Jqx ks k=true:=List.any_eq_true.2 ⟨k,h,by simp⟩
theorem Jor (h:k∉ks):Jqx ks k=false:=by
 rw[Jqx,List.any_eq_false];intro x hx e;exact h (by simpa using (of_decide_eq_true e)▸hx)
def J8m (l:Hp) (rb:Nat) (ks:List ByteArray) (key:ByteArray) (w:World) (e:Ending) (w':World):Prop:=
 e= .returned (.bool (!Jqx ks key))/\∃l',Ko l' rb (J62 ks key++[key])/\J3 w l w' l'
theorem J8m.mk {l':Hp} {key:ByteArray} {w':World} {is:Bool} (hi:(!Jqx ks key)=is) (h:Ko l' rb (J62 ks key++[key])) (hs:J3 w l w' l'):
 J8m l rb ks key w (.returned (.bool is)) w':=by subst hi;exact⟨rfl,l',h,hs⟩
theorem Jgn (l:Hp) (rb:Nat) (ks:List ByteArray) (key:ByteArray) (w:World) (hR:Ko l rb ks) (ho:Own w l):
 Calls Tryz.prog 85 #[ptr rb,.string key] w (J8m l rb ks key w):=by
 obtain⟨mb,o,ns,m,rfl,rfl,hm,hp,hn⟩:=hR
 have hmn:(m.map Prod.fst).Nodup:=by
  have:(m.map Prod.fst).Perm (ns.map Prod.snd):=by rw[<-Jeg];exact hp.map _
  exact this.nodup_iff.2 hn
 have c3:w.cell? ⟨rb,3,none⟩=some (.map (some mb)):=J2 ho.head 3;have hlk:=J5g (P:=Tryz.prog) (t:=98) Tryz.underlying98 Tryz.underlying9 Jls ho.tail.head hm key;have hpost:Hid (∀w' l' is,(!Jqx (ns.map Prod.snd) key)=is->Ko l' rb (J62 (ns.map Prod.snd) key++[key])->J3 w (J19 rb mb o ns) w' l'->J8m (J19 rb mb o ns) rb (ns.map Prod.snd) key w (.returned (.bool is)) w'):=fun w' l' is h1 h2 h3=>.mk h1 h2 h3
 rcases Jce ns key with⟨h1,h2⟩|⟨a,p,b,rfl,rfl,h3⟩
 ·rw[J0u hp hmn,h1] at hlk
  simp only[Option.getD_none,Option.isSome_none] at hlk;have hst:=hid (J3.refl ho);have hkd:=Jb8 h2;have hlm:Je m key=none:=by rw[J0u hp hmn,h1]
  obtain⟨S1,S1'⟩:∃S:J3 w (J19 rb mb o ns) (w.alloc (.cells #[.string key,.pointer none,.pointer none] 97)) ((w.heap.size,.cells #[.string key,.pointer none,.pointer none] 97)::J19 rb mb o ns),True:=⟨hst.out.alloc _,trivial⟩
  have hmb1:(w.alloc (.cells #[.string key,.pointer none,.pointer none] 97)).heap[mb]? =some o:=S1.own.tail.tail.head;obtain⟨o',hup,hm'⟩:=Jda (P:=Tryz.prog) (t:=98) Tryz.underlying98 Tryz.underlying9 hmb1 hm hmn key (ptr w.heap.size)
  obtain⟨w2,hw2⟩:∃w2:World,w2={(w.alloc (.cells #[.string key,.pointer none,.pointer none] 97)) with heap:=(w.alloc (.cells #[.string key,.pointer none,.pointer none] 97)).heap.setIfInBounds mb o'}:=⟨_,rfl⟩
  rw[<-hw2] at hup;have S2:J3 w (J19 rb mb o ns) w2 ((w.heap.size,.cells #[.string key,.pointer none,.pointer none] 97)::J19 rb mb o' ns):=by
   have h1:=(S1.permR (l2:=(mb,o)::(w.heap.size,.cells #[.string key,.pointer none,.pointer none] 97)::(rb,J28 (lst ns rb) (hd ns rb) mb)::Kw rb ns rb) (List.perm_middle (l₁:=[_,_]))).obj hw2;exact h1.permR (List.perm_middle (l₁:=[_,_])).symm
  have hlast:=hid (Jgg S2);have hfin:Hid (Ko (J19 rb mb o' (ns++[(w.heap.size,key)])) rb (J62 (ns.map Prod.snd) key++[key])):=by
   refine⟨mb,o',ns++[(w.heap.size,key)],_,rfl,by rw[hkd];simp,hm',?_,?_⟩
   ·rw[J2q,hlm]
    simp only[Option.isSome_none,Bool.false_eq_true,if_false,List.map_append,List.map_cons,List.map_nil];exact hp.append_right _
   ·rw[hkd,List.nodup_append]
    refine⟨hn,by simp,?_⟩
    intro x hx y hy
    simp only[List.mem_cons,List.not_mem_nil,or_false] at hy;subst hy;rintro rfl;exact h2 hx
  have c3':(w.alloc (.cells #[.string key,.pointer none,.pointer none] 97)).cell? ⟨rb,3,none⟩=some (.map (some mb)):=J2 S1.own.tail.head 3;have hrl:=Jf ho.head;replace h2:=hid h2;clear hw2 S1 S1' S2 hm' hmb1 hlm hkd hm hp hn hmn h1 ho hst;go_enter Tryz.func85,Tryz.ntmps85;go_wp2_with fail;refine hlast.out.mono ?_;rintro e w3 ⟨rfl,S3⟩;replace S3:=hid S3;go_wp2_with fail;go_ret;exact hpost.out _ _ _ (by rw[Jor h2.out];rfl) hfin.out S3.out
 ·rw[J0u hp hmn,h3] at hlk
  simp only[Option.getD_some,Option.isSome_some] at hlk;have hst:=J3.refl ho;have hout:=hid (Jkt hst);have hmem:p.2∈(a++p::b).map Prod.snd:=by simp
  have hkd:J62 ((a++p::b).map Prod.snd) p.2=(a++b).map Prod.snd:=by
   have:=hn;simp only[List.map_append,List.map_cons] at this⊢
   exact Jjx this
  have hfin:Hid (Ko (J19 rb mb o ((a++b)++[(p.1,p.2)])) rb (J62 ((a++p::b).map Prod.snd) p.2++[p.2])):=by
   have hpm:((a++b)++[(p.1,p.2)]).Perm (a++p::b):=by
    refine List.Perm.trans ?_ List.perm_middle.symm;exact List.perm_append_comm (l₁:=a++b) (l₂:=[p])
   refine⟨mb,o,(a++b)++[(p.1,p.2)],m,rfl,by rw[hkd];simp,hm,hp.trans (hpm.symm.map _),?_⟩
   rw[hkd];have:((a++b).map Prod.snd++[p.2]).Perm ((a++p::b).map Prod.snd):=by
    have:=hpm.map Prod.snd
    simpa using this
   exact this.nodup_iff.2 hn
  replace hmem:=hid hmem;clear hkd h3 hm hp hmn hn ho hst;go_enter Tryz.func85,Tryz.ntmps85;go_wp2_with fail;refine hout.out.mono ?_;rintro e w2 ⟨rfl,S2⟩;have hlast:=hid (Jgg S2);clear hlk;go_wp2_with fail;refine hlast.out.mono ?_;rintro e w3 ⟨rfl,S3⟩;replace S3:=hid S3;go_wp2_with fail;go_ret;exact hpost.out _ _ _ (by rw[Jjy hmem.out];rfl) hfin.out S3.out
def J8l (l:Hp) (rb:Nat) (ks:List ByteArray) (key:ByteArray) (w:World) (e:Ending) (w':World):Prop:=
 e= .returned (.bool (Jqx ks key))/\∃l',Ko l' rb (J62 ks key)/\J3 w l w' l'
theorem J8l.mk {l':Hp} {key:ByteArray} {w':World} {is:Bool} (hi:Jqx ks key=is) (h:Ko l' rb (J62 ks key)) (hs:J3 w l w' l'):
 J8l l rb ks key w (.returned (.bool is)) w':=by subst hi;exact⟨rfl,l',h,hs⟩
theorem Jrk (l:Hp) (rb:Nat) (ks:List ByteArray) (key:ByteArray) (w:World) (hR:Ko l rb ks) (ho:Own w l):
 Calls Tryz.prog 205 #[ptr rb,.string key] w (J8l l rb ks key w):=by
 obtain⟨mb,o,ns,m,rfl,rfl,hm,hp,hn⟩:=hR
 have hmn:(m.map Prod.fst).Nodup:=by
  have:(m.map Prod.fst).Perm (ns.map Prod.snd):=by rw[<-Jeg];exact hp.map _
  exact this.nodup_iff.2 hn
 have c3:w.cell? ⟨rb,3,none⟩=some (.map (some mb)):=J2 ho.head 3;have hlk:=J5g (P:=Tryz.prog) (t:=98) Tryz.underlying98 Tryz.underlying9 Jls ho.tail.head hm key;have hpost:Hid (∀w' l' is,Jqx (ns.map Prod.snd) key=is->Ko l' rb (J62 (ns.map Prod.snd) key)->J3 w (J19 rb mb o ns) w' l'->J8l (J19 rb mb o ns) rb (ns.map Prod.snd) key w (.returned (.bool is)) w'):=fun w' l' is h1 h2 h3=>.mk h1 h2 h3
 rcases Jce ns key with⟨h1,h2⟩|⟨a,p,b,rfl,rfl,h3⟩
 ·rw[J0u hp hmn,h1] at hlk
  simp only[Option.getD_none,Option.isSome_none] at hlk;have hfin:Hid (Ko (J19 rb mb o ns) rb (J62 (ns.map Prod.snd) key)):=⟨mb,o,ns,m,rfl,Jb8 h2,hm,hp,by rw[Jb8 h2];exact hn⟩
  have hst:=hid (J3.refl ho);replace h2:=hid h2;clear h1 hm hp hn hmn ho;go_enter Tryz.func205,Tryz.ntmps205;go_wp2_with fail;go_ret;exact hpost.out _ _ _ (Jor h2.out) hfin.out hst.out
 ·rw[J0u hp hmn,h3] at hlk
  simp only[Option.getD_some,Option.isSome_some] at hlk;have hout:=hid (Jkt (J3.refl ho));have hmem:=hid (show p.2∈(a++p::b).map Prod.snd by simp)
  have hkd:J62 ((a++p::b).map Prod.snd) p.2=(a++b).map Prod.snd:=by
   have:=hn;simp only[List.map_append,List.map_cons] at this⊢
   exact Jjx this
  have hm':=hid hm;have hp':=hid hp;have hn':=hid hn;have hkd':=hid hkd;have hmn':=hid hmn;have hne:=ho.nd;clear hkd h3 hm hp hmn hn ho;go_enter Tryz.func205,Tryz.ntmps205;go_wp2_with fail;refine hout.out.mono ?_;rintro e w2 ⟨rfl,S2⟩;have c3':w2.cell? ⟨rb,3,none⟩=some (.map (some mb)):=J2 S2.own.tail.head 3;obtain⟨o',hdel,hm2⟩:=Jp4 (P:=Tryz.prog) (t:=98) Tryz.underlying98 Tryz.underlying9 0 S2.own.tail.tail.head hm'.out hmn'.out p.2 9
  obtain⟨w3,hw3⟩:∃w3:World,w3={w2 with heap:=w2.heap.setIfInBounds mb o'}:=⟨_,rfl⟩
  rw[<-hw3] at hdel;have S3:J3 w (J19 rb mb o (a++p::b)) w3 (J19 rb mb o' (a++b)):=by
   have h1:=(S2.permR (l2:=(mb,o)::(p.1,J1k p.2 (lst a rb) (hd b rb))::(rb,J28 (lst (a++b) rb) (hd (a++b) rb) mb)::Kw rb (a++b) rb) (List.perm_middle (l₁:=[_,_]))).obj hw3;have h2:=h1.permR (l2:=(p.1,J1k p.2 (lst a rb) (hd b rb))::(rb,J28 (lst (a++b) rb) (hd (a++b) rb) mb)::(mb,o')::Kw rb (a++b) rb) (List.perm_middle (l₁:=[_,_])).symm;exact h2.less (List.sublist_cons_self _ _)
  have hfin:Hid (Ko (J19 rb mb o' (a++b)) rb (J62 ((a++p::b).map Prod.snd) p.2)):=by
   refine⟨mb,o',a++b,_,rfl,hkd'.out,hm2,?_,by rw[hkd'.out];have h0:=hn'.out;simp only[List.map_append,List.map_cons] at h0⊢;exact(List.nodup_cons.1 (List.perm_middle.nodup_iff.1 h0)).2⟩
   have h1:=hp'.out.filter (fun q=>decide (q.1≠p.2))
   refine List.Perm.trans h1 (List.Perm.of_eq ?_);have h0:=hn'.out;simp only[List.map_append,List.map_cons] at h0;have h0:=List.perm_middle.nodup_iff.1 h0;rw[List.nodup_cons] at h0;simp only[List.map_append,List.map_cons,List.filter_append,List.filter_cons];have hx:∀c:List Nd,(∀q∈c,q.2≠p.2)->(c.map J85).filter (fun q=>decide (q.1≠p.2))=c.map J85:=by
    intro c hc
    rw[List.filter_eq_self];intro q hq
    obtain⟨r,hr,rfl⟩:=List.mem_map.1 hq
    have h9:=hc r hr;exact decide_eq_true h9
   rw[hx a (fun q hq e=>h0.1 (by rw[<-e];exact List.mem_append_left _ (List.mem_map_of_mem hq))),hx b (fun q hq e=>h0.1 (by rw[<-e];exact List.mem_append_right _ (List.mem_map_of_mem hq)))]
   simp[J85]
  replace S3:=hid S3;clear hlk hw3 hm2 S2;go_wp2_with fail;go_ret;exact hpost.out _ _ _ (Jjy hmem.out) hfin.out S3.out
def J0q (ks:List ByteArray) (but:ByteArray):ByteArray×Bool:=match ks with
 |[]=>(ByteArray.empty,false)
 |k::r=>if k=but then(match r with
  |[]=>(ByteArray.empty,false)
  |k2::_=>(k2,true)) else(k,true)
theorem Ji6 {P:Program} (w:World) {tp te:TypeId} {j:TypeInfo} (a:Addr) (hp:P.underlying tp=some (.pointer te)) (hte:P.info? te=some j):
 (binOp .neq tp (.pointer (some a)) (.pointer (some a))).run P w= .ok (.bool false) w:=by
 have h:∀d:Nat,(Op.equalIn (d+1) tp (.pointer (some a)) (.pointer (some a))).run P w= .ok true w:=fun d=>by
  simp[Op.equalIn,run_underlying hp,sizeOf,typeInfo,hte,run_sameAddr_same]
 simp only[binOp];simp[Op.equal,Op.maxDepth,h 9999]
theorem Jfb {P:Program} (w:World) {tp te:TypeId} {j:TypeInfo} {a b:Addr} {ca cb:Array Value} {ta tb:TypeId} (hp:P.underlying tp=some (.pointer te)) (hte:P.info? te=some j) (hsz:j.size≠0)
 (hne:a≠b) (ha:w.heap[a.block]? =some (.cells ca ta (0,0))) (hb:w.heap[b.block]? =some (.cells cb tb (0,0))):
  (binOp .neq tp (.pointer (some a)) (.pointer (some b))).run P w= .ok (.bool true) w:=by
  have h:∀d:Nat,(Op.equalIn (d+1) tp (.pointer (some a)) (.pointer (some b))).run P w= .ok false w:=fun d=>by
   simp[Op.equalIn,run_underlying hp,sizeOf,typeInfo,hte,hsz,run_sameAddr_other w hne ha hb]
  simp only[binOp];simp[Op.equal,Op.maxDepth,h 9999]
theorem Jk1:∃j,Tryz.prog.info? 97=some j/\j.size≠0:=by
 have h:(Tryz.prog.info? 97).map (fun i=>i.size)=some 3:=by kernel_rfl
 obtain⟨j,hj,hs⟩:=Option.map_eq_some_iff.1 h
 exact⟨j,hj,by rw[hs];decide⟩
theorem Jr1 (a:Addr) (w:World):(binOp .neq 95 (.pointer (some a)) (.pointer (some a))).run Tryz.prog w= .ok (.bool false) w:=by
 obtain⟨j,hj,_⟩:=Jk1
 exact Ji6 w a Tryz.underlying95 hj
theorem Jec {a b:Nat} {oa ob:Obj} (hne:a≠b) (ha:w.heap[a]? =some oa) (hb:w.heap[b]? =some ob) (ca:∃c t,oa= .cells c t (0,0)) (cb:∃c t,ob= .cells c t (0,0)):
 ∀n,(binOp .neq 95 (ptr a) (ptr b)).run Tryz.prog (w.drewN n)= .ok (.bool true) (w.drewN n):=by
 intro n
 obtain⟨j,hj,hs⟩:=Jk1
 obtain⟨c,t,rfl⟩:=ca
 obtain⟨c',t',rfl⟩:=cb
 exact Jfb (w.drewN n) Tryz.underlying95 hj hs (fun e=>hne (congrArg Addr.block e)) ha hb
theorem Jmx (l:Hp) (rb:Nat) (ks:List ByteArray) (but:ByteArray) (w:World) (hR:Ko l rb ks) (ho:Own w l):
 Calls Tryz.prog 186 #[ptr rb,.string but] w fun e w'=>e= .returned (.tuple #[.string (J0q ks but).1,.bool (J0q ks but).2])/\∃n,w'=w.drewN n:=by
 obtain⟨mb,o,ns,m,rfl,rfl,hm,hp,hn⟩:=hR
 have c0:w.cell? ⟨rb,0,none⟩=some (.string ByteArray.empty):=J2 ho.head 0;have c2:w.cell? ⟨rb,2,none⟩=some (ptr (hd ns rb)):=J2 ho.head 2;have hsame:=Jr1 ⟨rb,0,none⟩;cases ns with
 |nil=>
  simp only[Je4] at c2;clear hm hp hn ho;go_enter Tryz.func186,Tryz.ntmps186;go_wp2_with fail;go_quiet (fail);go_wp2_with fail;go_ret2;exact⟨rfl,_,rfl⟩
 |cons p r=>
  have hnd:=ho.nd;simp only[J0y,J19,Je9,List.map_cons,List.nodup_cons,List.mem_cons,not_or] at hnd;have hne:¬p.1=rb:=fun e=>hnd.1.2.1 e.symm
  have hpo:w.heap[p.1]? =some (J1k p.2 rb (hd r rb)):=Jbk (a:=[]) ho;have d0:w.cell? ⟨p.1,0,none⟩=some (.string p.2):=J2 hpo 0;have d2:w.cell? ⟨p.1,2,none⟩=some (ptr (hd r rb)):=J2 hpo 2;simp only[J72] at c2;have hoth:=Jec (fun e=>hnd.1.2.1 e.symm) hpo ho.head ⟨_,_,rfl⟩ ⟨_,_,rfl⟩
  have hoth0:=hoth 0;rw[World.drewN_zero] at hoth0;by_cases hb:p.2=but
  ·have ht:=Jbr hb
   cases r with
   |nil=>
    simp only[Je4] at d2;have hol:J0q ([p].map Prod.snd) but=(ByteArray.empty,false):=by simp[J0q,hb]
    rw[hol];clear hm hp hn ho hol hb hnd hpo;go_enter Tryz.func186,Tryz.ntmps186;go_wp2_with fail;go_quiet (fail);go_wp2_with fail;go_ret2;exact⟨rfl,_,rfl⟩
   |cons q r=>
    have hpq:w.heap[q.1]? =some (J1k q.2 p.1 (hd r rb)):=Jbk (a:=[p]) ho;have e0:w.cell? ⟨q.1,0,none⟩=some (.string q.2):=J2 hpq 0;have hne2:¬q.1=rb:=fun e=>hnd.1.2.2 (by simp[e])
    simp only[J72] at d2;have hoth2:=Jec hne2 hpq ho.head ⟨_,_,rfl⟩ ⟨_,_,rfl⟩;have hoth20:=hoth2 0;rw[World.drewN_zero] at hoth20;have hol:J0q ((p::q::r).map Prod.snd) but=(q.2,true):=by simp[J0q,hb]
    rw[hol];clear hm hp hn ho hol hb hnd hpo hpq;go_enter Tryz.func186,Tryz.ntmps186;go_wp2_with fail;go_quiet (fail);go_wp2_with fail;go_ret2;exact⟨rfl,_,rfl⟩
  ·have ht:=J6o hb
   have hol:J0q ((p::r).map Prod.snd) but=(p.2,true):=by simp[J0q,hb]
   rw[hol];clear hm hp hn ho hol hb hnd hpo;go_enter Tryz.func186,Tryz.ntmps186;go_wp2_with fail;go_quiet (fail);go_wp2_with fail;go_ret2;exact⟨rfl,_,rfl⟩
theorem Jen (rb:Nat) (x1 x2 x3:Value) (l0:Hp) (w0 w:World) (hS:J3 w0 l0 w [(rb,.cells #[.string ByteArray.empty,x1,x2,x3] 100 (0,0))]):
 Calls Tryz.prog 34 #[ptr rb] w fun e w'=>e= .returned (.tuple #[])/\∃l',Ko l' rb []/\J3 w0 l0 w' l':=by
 have hb:=hS.own.head;have c1:w.cell? ⟨rb,1,none⟩=some x1:=J2 hb 1;have c2:w.cell? ⟨rb,2,none⟩=some x2:=J2 hb 2;have c3:w.cell? ⟨rb,3,none⟩=some x3:=J2 hb 3;have f1:∀j,w.frozen? ⟨rb,j,none⟩=false:=fun j=>Jg hb j
 have hlt:=Jf hb;have hmm:=@run_makeMap Tryz.prog;have hst:=hid hS;clear hS hb;go_enter Tryz.func34,Tryz.ntmps34;go_wp2_with fail;go_region
 go_wp2_with fail;go_end0
 refine⟨rfl,J19 rb w.heap.size (.map #[] 0) [],⟨_,_,[],[],rfl,rfl,J2a.empty,List.Perm.refl _,List.nodup_nil⟩,?_⟩
 have h1:=(((((hst.out.set 3 (.map (some w.heap.size))).set 1 (ptr rb)).set 2 (ptr rb)).alloc (.map #[] 0)).drew).permR (List.Perm.swap _ _ _);have e:(((w.setCell ⟨rb,3,none⟩ (.map (some w.heap.size))).setCell ⟨rb,1,none⟩ (ptr rb)).setCell ⟨rb,2,none⟩ (ptr rb)).heap.size=w.heap.size:=by simp
 rw[e] at h1;exact h1
theorem Jum (w:World):Calls Tryz.prog 19 #[] w fun e w'=>∃rb l',e= .returned (ptr rb)/\Ko l' rb []/\J3 w [] w' l':=by
 have S1:=(J3.refl (Own.nil w)).alloc (.cells #[.string ByteArray.empty,.pointer none,.pointer none,.map none] 100);have hcl:=hid (Jen w.heap.size _ _ _ [] w _ S1);clear S1;go_enter Tryz.func19,Tryz.ntmps19;go_wp2_with fail;refine hcl.out.mono ?_;rintro e w2 ⟨rfl,l',hR,S2⟩;replace hR:=hid hR;replace S2:=hid S2;go_wp2_with fail;go_ret;exact⟨_,l',rfl,hR.out,S2.out⟩
end Go.Proofs.YtncbcaabanoeoaaGreatDoor
