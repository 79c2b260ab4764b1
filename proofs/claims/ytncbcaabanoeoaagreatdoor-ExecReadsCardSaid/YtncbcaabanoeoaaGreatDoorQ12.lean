/-
Decimals shifted stay decimals, and come nearer to one: plain (no program).
-/
import Derived.Deep.LoopGhost
import Derived.Laws.Bits64b
import Derived.Laws.Externs
import Derived.Laws.FloatArith
import Derived.Test.YtncbcaabanoeoaaGreatDoorQ01
import Derived.Test.YtncbcaabanoeoaaGreatDoorQ05
import Derived.Test.YtncbcaabanoeoaaGreatDoorQ11
set_option linter.unusedVariables false
set_option linter.unusedSimpArgs false
set_option maxRecDepth 100000
set_option maxHeartbeats 8000000
namespace Go.Proofs.YtncbcaabanoeoaaGreatDoor
open Go Go.RowKit
variable {dp:Int}{d k off nd b i:Nat}{w w0:World}{cs:Array Value}{l:List Nat}{ng:Bool}{r:Hp}
theorem J41.of_trim {ds:List Nat} {lost:Bool} {es:List Nat} (h:ds=d::es) (h1:1<=d) (ht:∀x∈ds,x<10) (hl:ds.length<=800):
 J41 (Dc.trim ⟨ds,dp,lost⟩)/\(Dc.trim ⟨ds,dp,lost⟩).dp=dp/\(Dc.trim ⟨ds,dp,lost⟩).top=d:=by
 subst h;obtain⟨fs,hf⟩:=Jm7 (ds:=es) h1
 refine⟨⟨⟨d,fs,hf,h1⟩,fun x hx=>ht x (Jq0 hx),Nat.le_trans (Jpz _) hl⟩,?_,?_⟩
 ·show(if J3a (d::es)=[] then(0:Int) else dp)=dp
  rw[hf,if_neg (by simp)]
 ·show(J3a (d::es)).headD 0=d
  rw[hf];rfl
structure J9k (N w:Nat) (out:List Nat):Prop where
 le:w<=N
 len:out.length=min N 800 - w
 ten:∀d∈out,d<10
theorem J9k.in_ {N w:Nat} {out:List Nat} (h:J9k N w out) (h1:1<=w) (h2:w - 1<800) {x:Nat} (hx:x<10):J9k N (w - 1) (x::out):=
 ⟨by have:=h.le;omega,by have:=h.le;rw[List.length_cons,h.len];omega,fun d hd=>by
  rcases List.mem_cons.1 hd with rfl|hd
  ·exact hx
  ·exact h.ten d hd⟩
theorem J9k.out_ {N w:Nat} {out:List Nat} (h:J9k N w out) (h2:¬w - 1<800):J9k N (w - 1) out:=
 ⟨by have:=h.le;omega,by have:=h.le;rw[h.len];omega,h.ten⟩
theorem J9o (k:Nat):∀(rs:List Nat) (w n:Nat) (out:List Nat) (lost:Bool),(J42 k rs w n out lost).2.1=(n+J35 rs.reverse*2 ^k)/10 ^rs.length
 |[],w,n,out,lost=>by simp[J42]
 |d::rs,w,n,out,lost=>by
  have h:∀(w':Nat) (o:List Nat) (l:Bool),(J42 k rs w' ((n+d*2 ^k)/10) o l).2.1=(n+J35 (d::rs).reverse*2 ^k)/10 ^(d::rs).length:=by
   intro w' o l
   rw[J9o k rs,List.reverse_cons,Jfs,List.length_cons,Nat.pow_succ,Nat.mul_comm (10 ^rs.length) 10,<-Nat.div_div_eq_div_mul];congr 1
   rw[Nat.add_mul,show n+(J35 rs.reverse*10*2 ^k+d*2 ^k)=n+d*2 ^k+J35 rs.reverse*2 ^k*10 by
    rw[Nat.mul_assoc,Nat.mul_comm 10,<-Nat.mul_assoc];omega]
   rw[Nat.add_mul_div_right _ _ (by decide)]
  simp only[J42];split<;>exact h _ _ _
theorem Jai (k N:Nat):∀(rs:List Nat) (w n:Nat) (out:List Nat) (lost:Bool),J9k N w out->rs.length<=w->(J42 k rs w n out lost).1=w - rs.length/\J9k N (w - rs.length) (J42 k rs w n out lost).2.2.1
 |[],w,n,out,lost,h,_=>by simpa[J42] using h
 |d::rs,w,n,out,lost,h,hw=>by
  simp only[List.length_cons] at hw;have e:w - (d::rs).length=w - 1 - rs.length:=by simp only[List.length_cons];omega
  rw[e];simp only[J42];split
  ·exact Jai k N rs _ _ _ _ (h.in_ (by omega) ‹_› (Nat.mod_lt _ (by decide))) (by omega)
  ·exact Jai k N rs _ _ _ _ (h.out_ ‹_›) (by omega)
theorem Jjz (k:Nat):∀(rs qs:List Nat) (w n:Nat) (out:List Nat) (lost:Bool),J42 k (rs++qs) w n out lost=J42 k qs (J42 k rs w n out lost).1 (J42 k rs w n out lost).2.1 (J42 k rs w n out lost).2.2.1 (J42 k rs w n out lost).2.2.2
 |[],qs,w,n,out,lost=>rfl
 |d::rs,qs,w,n,out,lost=>by
  simp only[List.cons_append,J42];split<;>exact Jjz k rs qs _ _ _ _
theorem Jqy:∀(f w:Nat) (out:List Nat) (lost:Bool),Jb9 f w 0 out lost=(out,lost)
 |0,_,_,_=>rfl
 |_+1,_,_,_=>rfl
theorem Jea (N:Nat):∀(w n:Nat) (out:List Nat) (lost:Bool),J9k N w out->n<10 ^w->(1<=w->10 ^(w - 1)<=n)->
 J9k N 0 (Jb9 w w n out lost).1/\(1<=w->∃d es,(Jb9 w w n out lost).1=d::es/\1<=d)
 |0,n,out,lost,h,hn,_=>⟨h,fun h=>absurd h (by decide)⟩
 |w+1,n,out,lost,h,hn,hlo=>by
  have hlo':=hlo (by omega)
  rw[Nat.add_sub_cancel] at hlo';have hpos:0<10 ^w:=Nat.pow_pos (by decide)
  have hn1:n≠0:=by omega
  have a1:n/10<10 ^w:=by rw[Nat.pow_succ] at hn;omega
  have a2:1<=w->10 ^(w - 1)<=n/10:=fun hw=>by
   have e:10 ^w=10 ^(w - 1)*10:=by rw[<-Nat.pow_succ];congr 1;omega
   omega
  simp only[Jb9,if_neg hn1,Nat.add_sub_cancel];by_cases hc:w<800
  ·rw[if_pos hc]
   have hi:J9k N w (n%10::out):=by simpa using h.in_ (by omega) (by simpa using hc) (Nat.mod_lt n (by decide:10>0))
   have ih:=Jea N w (n/10) (n%10::out) lost hi a1 a2;refine⟨ih.1,fun _=>?_⟩
   by_cases hw:1<=w
   ·exact ih.2 hw
   ·obtain rfl:w=0:=by omega
    exact⟨n%10,out,rfl,by simp at hn hlo';omega⟩
  ·rw[if_neg hc]
   have hi:J9k N w out:=by simpa using h.out_ (by simpa using hc)
   have ih:=Jea N w (n/10) out (lost||decide (n%10≠0)) hi a1 a2
   exact⟨ih.1,fun _=>ih.2 (by omega)⟩
theorem Jos {a:Dc} (h:J41 a) (h1:1<=k) (h2:k<=60):J41 (a.left k)/\(a.left k).dp=a.dp+J1j a k/\(J1j a k=0->a.top<(a.left k).top):=by
 obtain⟨f1,f2,_⟩:=J55 h h1 h2
 obtain⟨d,es,hds,hd⟩:=h.head
 unfold Dc.left Jht Jym;generalize hδ:J1j a k=δ at *;have hN:J9k (a.ds.length+δ) (a.ds.length+δ) []:=⟨Nat.le_refl _,by simp;omega,by simp⟩
 have hm:=Jai k (a.ds.length+δ) a.ds.reverse (a.ds.length+δ) 0 [] a.lost hN (by simp)
 have hc:=J9o k a.ds.reverse (a.ds.length+δ) 0 [] a.lost;simp only[List.length_reverse,List.reverse_reverse,Nat.zero_add] at hm hc;rw[show a.ds.length+δ - a.ds.length=δ by omega] at hm
 by_cases hz:δ=0
 ·
  subst hz;have hlast:=Jjz k es.reverse [d] (a.ds.length+0) 0 [] a.lost;have hrev:a.ds.reverse=es.reverse++[d]:=by rw[hds];simp
  rw[<-hrev] at hlast;have hw1:=(Jai k (a.ds.length+0) es.reverse (a.ds.length+0) 0 [] a.lost hN (by rw[hds];simp)).1
  have hlen:a.ds.length=es.length+1:=by rw[hds];simp
  simp only[List.length_reverse] at hw1;rw[show a.ds.length+0 - es.length=1 by omega] at hw1
  rw[hw1] at hlast;simp only[J42,Nat.sub_self] at hlast;rw[if_pos (by decide)] at hlast
  generalize hp:J42 k a.ds.reverse (a.ds.length+0) 0 [] a.lost=p at *;generalize hq:J42 k es.reverse (a.ds.length+0) 0 [] a.lost=q at *;have hcz:p.2.1=0:=by rw[hc];exact Nat.div_eq_of_lt (by simpa using f1)
  rw[hcz,Jqy];have hpo:p.2.2.1=((q.2.1+d*2 ^k)%10)::q.2.2.1:=by rw[hlast]
  have hpn:(q.2.1+d*2 ^k)/10=0:=by rw[hlast] at hcz;exact hcz
  have hsm:q.2.1+d*2 ^k<10:=by omega
  have h2k:2<=2 ^k:=by
   have:=Nat.pow_le_pow_right (show 0<2 by decide) h1
   simpa using this
  have hdk:d*2<=d*2 ^k:=Nat.mul_le_mul_left _ h2k;have hmod:(q.2.1+d*2 ^k)%10=q.2.1+d*2 ^k:=Nat.mod_eq_of_lt hsm;obtain⟨b1,b2,b3⟩:=J41.of_trim (ds:=p.2.2.1) (dp:=a.dp+(0:Nat)) (lost:=p.2.2.2) hpo (by omega) hm.2.ten (by rw[hm.2.len];omega)
  refine⟨b1,b2,fun _=>?_⟩
  rw[b3];show a.ds.headD 0<_
  rw[hds];simp only[List.headD_cons];omega
 ·have hlt:J35 a.ds*2 ^k/10 ^a.ds.length<10 ^δ:=by
   rw[Nat.div_lt_iff_lt_mul (Nat.pow_pos (by decide)),<-Nat.pow_add,Nat.add_comm δ];exact f1
  have hge:10 ^(δ - 1)<=J35 a.ds*2 ^k/10 ^a.ds.length:=by
   rw[Nat.le_div_iff_mul_le (Nat.pow_pos (by decide)),<-Nat.pow_add]
   have e:10 ^(a.ds.length+δ)=10 ^(δ - 1+a.ds.length)*10:=by rw[<-Nat.pow_succ];congr 1;omega
   omega
  generalize hp:J42 k a.ds.reverse (a.ds.length+δ) 0 [] a.lost=p at *;rw[hm.1,hc];rw[hm.1] at hm;obtain⟨c1,c2⟩:=Jea (a.ds.length+δ) δ _ p.2.2.1 p.2.2.2 hm.2 hlt (fun _=>hge)
  obtain⟨x,xs,hx,hx1⟩:=c2 (by omega)
  obtain⟨b1,b2,b3⟩:=J41.of_trim (ds:=(Jb9 δ δ (J35 a.ds*2 ^k/10 ^a.ds.length) p.2.2.1 p.2.2.2).1) (dp:=a.dp+(δ:Nat)) (lost:=(Jb9 δ δ (J35 a.ds*2 ^k/10 ^a.ds.length) p.2.2.1 p.2.2.2).2) hx hx1 c1.ten (by rw[c1.len];omega)
  exact⟨b1,b2,fun h=>absurd h hz⟩
theorem Jbj (k:Nat):∀(f n r:Nat),2 ^k<=n*10 ^f->n<2 ^k*10->2 ^k<=(J7m k f n r).1/\(J7m k f n r).1<2 ^k*10/\r<=(J7m k f n r).2
 |0,n,r,h,h2=>⟨by simpa[J7m] using h,h2,Nat.le_refl _⟩
 |f+1,n,r,h,h2=>by
  have hp:0<2 ^k:=Nat.pow_pos (by decide)
  simp only[J7m];by_cases hc:n/2 ^k≠0
  ·rw[if_pos hc]
   refine⟨?_,h2,Nat.le_refl _⟩
   have:=Nat.div_mul_le_self n (2 ^k)
   have:1*2 ^k<=n/2 ^k*2 ^k:=Nat.mul_le_mul_right _ (Nat.one_le_iff_ne_zero.2 hc)
   omega
  ·rw[if_neg hc]
   have hlt:n<2 ^k:=by
    have:n/2 ^k=0:=by simpa using hc
    exact(Nat.div_eq_zero_iff_lt hp).1 this
   have ih:=Jbj k f (n*10) (r+1) (by rw[Nat.mul_assoc,Nat.mul_comm 10,<-Nat.pow_succ];exact h) (by omega)
   exact⟨ih.1,ih.2.1,by omega⟩
theorem Jie (k:Nat):2 ^k<=10 ^(k+1):=Nat.le_trans (Nat.pow_le_pow_left (by decide) k) (Nat.pow_le_pow_right (by decide) (by omega))
theorem Jem (k:Nat):∀(ds:List Nat) (n r:Nat),(∀d∈ds,d<10)->1<=n->n<2 ^k*10->
 2 ^k<=(J1u k ds n r).1/\(J1u k ds n r).1<2 ^k*10/\r<=(J1u k ds n r).2.1/\(J1u k ds n r).2.2.length<=ds.length/\(∀d∈(J1u k ds n r).2.2,d<10)/\((J1u k ds n r).2.1=r->(J1u k ds n r).1=n)
 |[],n,r,_,h1,h2=>by
  simp only[J1u];have h:=Jbj k (k+1) n r (Nat.le_trans (Jie k) (Nat.le_mul_of_pos_left _ h1)) h2;refine⟨h.1,h.2.1,h.2.2,by simp,by simp,?_⟩
  simp only[J7m];split
  ·intro _;rfl
  ·intro he
   exfalso
   have hlt:n<2 ^k:=(Nat.div_eq_zero_iff_lt (Nat.pow_pos (by decide))).1 (by simpa using ‹¬n/2 ^k≠0›)
   have:=(Jbj k k (n*10) (r+1) (by rw[Nat.mul_assoc,Nat.mul_comm 10,<-Nat.pow_succ];exact Nat.le_trans (Jie k) (Nat.le_mul_of_pos_left _ h1)) (by omega)).2.2
   omega
 |d::ds,n,r,hd,h1,h2=>by
  simp only[J1u];have hp:0<2 ^k:=Nat.pow_pos (by decide)
  split
  ·rename_i hc
   refine⟨?_,h2,Nat.le_refl _,Nat.le_refl _,hd,fun _=>rfl⟩
   have:=Nat.div_mul_le_self n (2 ^k)
   have:1*2 ^k<=n/2 ^k*2 ^k:=Nat.mul_le_mul_right _ (Nat.one_le_iff_ne_zero.2 hc)
   omega
  ·rename_i hc
   have hlt:n<2 ^k:=(Nat.div_eq_zero_iff_lt hp).1 (by simpa using hc)
   have hd0:=hd d (by simp)
   have ih:=Jem k ds (n*10+d) (r+1) (fun x hx=>hd x (by simp[hx])) (by omega) (by omega)
   exact⟨ih.1,ih.2.1,by omega,by have:=ih.2.2.2.1;simp only[List.length_cons];omega,ih.2.2.2.2.1,fun he=>by have:=ih.2.2.1;omega⟩
structure Jpk (k n:Nat) (out:List Nat) (top:Nat):Prop where
 ten:∀d∈out,d<10
 lt:n<2 ^k*10
 head:out.headD (n/2 ^k)=top
theorem Jpk.put {n:Nat} {out:List Nat} {top:Nat} (h:Jpk k n out top) (hd:d<10):Jpk k (n%2 ^k*10+d) (out++[n/2 ^k]) top:=by
 have hp:0<2 ^k:=Nat.pow_pos (by decide)
 have hm:=Nat.mod_lt n hp;refine⟨fun x hx=>?_,by omega,?_⟩
 ·rw[List.mem_append,List.mem_singleton] at hx
  rcases hx with hx|rfl
  ·exact h.ten x hx
  ·rw[Nat.div_lt_iff_lt_mul hp,Nat.mul_comm];exact h.lt
 ·rw[<-h.head]
  cases out<;>rfl
theorem Jkk (k top:Nat):∀(ds:List Nat) (n:Nat) (out:List Nat),(∀d∈ds,d<10)->Jpk k n out top->Jpk k (J9s k ds n out).1 (J9s k ds n out).2 top/\(J9s k ds n out).2.length=out.length+ds.length
 |[],n,out,_,h=>⟨h,by simp[J9s]⟩
 |d::ds,n,out,hd,h=>by
  have ih:=Jkk k top ds _ _ (fun x hx=>hd x (by simp[hx])) (h.put (hd d (by simp)))
  refine⟨ih.1,?_⟩
  have:=ih.2
  simp only[J9s,List.length_append,List.length_cons,List.length_nil] at this⊢;omega
theorem Jel (k top:Nat) (htop:1<=top):∀(f n:Nat) (out:List Nat) (lost:Bool),Jpk k n out top->out.length<=800->(out=[]->1<=f/\n≠0)->
 (∃es,(Jbi k f n out lost).1=top::es)/\(∀d∈(Jbi k f n out lost).1,d<10)/\(Jbi k f n out lost).1.length<=800
 |0,n,out,lost,h,hl,he=>by
  refine⟨?_,h.ten,hl⟩
  cases out with
  |nil=>exact absurd (he rfl).1 (by decide)
  |cons d es=>have:=h.head;simp only[List.headD_cons] at this;subst this;exact⟨es,rfl⟩
 |f+1,n,out,lost,h,hl,he=>by
  simp only[Jbi];split
  ·rename_i hn
   refine⟨?_,h.ten,hl⟩
   cases out with
   |nil=>exact absurd hn (he rfl).2
   |cons d es=>have:=h.head;simp only[List.headD_cons] at this;subst this;exact⟨es,rfl⟩
  ·split
   ·exact Jel k top htop f _ _ _ (h.put (d:=0) (by decide)) (by simp;omega) (by simp)
   ·have hne:out≠[]:=by rintro rfl;simp at *
    have hp:0<2 ^k:=Nat.pow_pos (by decide)
    have hm:=Nat.mod_lt n hp;refine Jel k top htop f _ _ _ ⟨h.ten,by omega,?_⟩ hl (fun h=>absurd h hne)
    rw[<-h.head];cases out with
    |nil=>exact absurd rfl hne
    |cons d es=>rfl
theorem Jao {a:Dc} (h:J41 a) (h1:1<=k):J41 (a.right k)/\((a.right k).dp<a.dp\/(a.right k).dp=a.dp/\(a.right k).top<a.top):=by
 obtain⟨d,es,hds,hd⟩:=h.head
 have hp:0<2 ^k:=Nat.pow_pos (by decide)
 have hten:=h.ten;rw[hds] at hten;have hd10:=hten d (by simp)
 have he:J1u k a.ds 0 0=J1u k es d 1:=by
  rw[hds];simp only[J1u,Nat.zero_div,ne_eq,not_true,if_false,Nat.zero_mul,Nat.zero_add]
 have hl:=h.len;rw[hds,List.length_cons] at hl;unfold Dc.right Jd9 Jui;rw[he];obtain⟨p1,p2,p3,p4,p5,p6⟩:=Jem k es d 1 (fun x hx=>hten x (by simp[hx])) hd (by omega)
 generalize hpk:J1u k es d 1=p at *;have htop:1<=p.1/2 ^k:=by rw[Nat.le_div_iff_mul_le hp];omega
 have hm:=Jkk k (p.1/2 ^k) p.2.2 p.1 [] p5 ⟨by simp,p2,rfl⟩
 generalize hq:J9s k p.2.2 p.1 []=q at *
 have hq2:q.2=[]->1<=k+2/\q.1≠0:=fun hn=>by
  have h3:=hm.2;rw[hn] at h3;have:p.2.2=[]:=List.length_eq_zero_iff.1 (by simpa using h3.symm)
  rw[this] at hq;simp only[J9s] at hq;rw[<-hq];exact⟨by omega,by show p.1≠0;omega⟩
 have hql:q.2.length<=800:=by rw[hm.2];simp;omega
 obtain⟨⟨xs,hx⟩,c2,c3⟩:=Jel k (p.1/2 ^k) htop (k+2) q.1 q.2 a.lost hm.1 hql hq2
 obtain⟨b1,b2,b3⟩:=J41.of_trim (dp:=a.dp - (p.2.1 - 1)) (lost:=(Jbi k (k+2) q.1 q.2 a.lost).2) hx htop c2 c3
 refine⟨b1,?_⟩
 rw[b2,b3];by_cases hr:p.2.1=1
 ·right
  refine⟨by omega,?_⟩
  rw[p6 hr];show _<a.ds.headD 0
  rw[hds]
  have:2<=2 ^k:=by
   have:=Nat.pow_le_pow_right (show 0<2 by decide) h1
   simpa using this
  exact Nat.div_lt_self (by omega) (by omega)
 ·left;omega
abbrev dgv (d:Nat):Value:=.int .u8 ((48+d:Nat):Int)
def J1o (cs:Array Value) (off:Nat) (l:List Nat):Prop:=∀(i d:Nat),l[i]? =some d->cs[off+i]? =some (dgv d)
theorem J1o.out (h:J1o cs off l) (i:Nat) (v:Value) (hi:i<off\/off+l.length<=i):J1o (cs.setIfInBounds i v) off l:=fun j d hj=>by
 have:=(List.getElem?_eq_some_iff.1 hj).1
 rw[Array.getElem?_setIfInBounds_ne (by omega)]
 exact h j d hj
theorem J1o.snoc (h:J1o cs off l) (hs:off+l.length<cs.size) (d:Nat):J1o (cs.setIfInBounds (off+l.length) (dgv d)) off (l++[d]):=fun j e hj=>by
 by_cases hjl:j<l.length
 ·rw[List.getElem?_append_left hjl] at hj
  rw[Array.getElem?_setIfInBounds_ne (by omega)]
  exact h j e hj
 ·rw[List.getElem?_append_right (by omega)] at hj
  have h0:j - l.length=0:=by
   have:=(List.getElem?_eq_some_iff.1 hj).1;simp at this;omega
  rw[h0] at hj;simp at hj
  subst hj;have:j=l.length:=by omega
  subst this;rw[Array.getElem?_setIfInBounds_self_of_lt hs]
theorem J1o.cons {w:Nat} (h:J1o cs (w+1) l) (hs:w<cs.size) (d:Nat):J1o (cs.setIfInBounds w (dgv d)) w (d::l):=fun j e hj=>by
 cases j with
 |zero=>
  simp at hj;subst hj
  rw[Nat.add_zero,Array.getElem?_setIfInBounds_self_of_lt hs]
 |succ j=>
  simp only[List.getElem?_cons_succ] at hj;rw[Array.getElem?_setIfInBounds_ne (by omega)]
  have:=h j e hj
  rwa[show w+1+j=w+(j+1) by omega] at this
theorem J1o.drop (h:J1o cs off l) (k:Nat):J1o cs (off+k) (l.drop k):=fun j d hj=>by
 rw[List.getElem?_drop] at hj;have:=h _ d hj
 rwa[show off+(k+j)=off+k+j by omega] at this
theorem J1o.take (h:J1o cs off l) (k:Nat):J1o cs off (l.take k):=fun j d hj=>by
 rw[List.getElem?_take] at hj;split at hj
 ·exact h j d hj
 ·cases hj
structure J2v (cs:Array Value) (nd:Nat) (dp:Int) (ng lost:Bool):Prop where
 size:cs.size=804
 nd:cs[800]? =some (.int .i64 nd)
 dp:cs[801]? =some (.int .i64 dp)
 ng:cs[802]? =some (.bool ng)
 lost:cs[803]? =some (.bool lost)
theorem J2v.put {lost:Bool} (h:J2v cs nd dp ng lost) (i:Nat) (hi:i<800) (v:Value):J2v (cs.setIfInBounds i v) nd dp ng lost:=
 ⟨by simpa using h.size,by rw[Array.getElem?_setIfInBounds_ne (by omega)];exact h.nd,by rw[Array.getElem?_setIfInBounds_ne (by omega)];exact h.dp,by rw[Array.getElem?_setIfInBounds_ne (by omega)];exact h.ng,by rw[Array.getElem?_setIfInBounds_ne (by omega)];exact h.lost⟩
theorem J2v.putNd {lost:Bool} (h:J2v cs nd dp ng lost) (m:Nat):J2v (cs.setIfInBounds 800 (.int .i64 m)) m dp ng lost:=
 ⟨by simpa using h.size,by rw[Array.getElem?_setIfInBounds_self_of_lt (by rw[h.size];omega)],by rw[Array.getElem?_setIfInBounds_ne (by omega)];exact h.dp,by rw[Array.getElem?_setIfInBounds_ne (by omega)];exact h.ng,by rw[Array.getElem?_setIfInBounds_ne (by omega)];exact h.lost⟩
theorem J2v.putDp {lost:Bool} (h:J2v cs nd dp ng lost) (m:Int):J2v (cs.setIfInBounds 801 (.int .i64 m)) nd m ng lost:=
 ⟨by simpa using h.size,by rw[Array.getElem?_setIfInBounds_ne (by omega)];exact h.nd,by rw[Array.getElem?_setIfInBounds_self_of_lt (by rw[h.size];omega)],by rw[Array.getElem?_setIfInBounds_ne (by omega)];exact h.ng,by rw[Array.getElem?_setIfInBounds_ne (by omega)];exact h.lost⟩
theorem J2v.putNg {lost:Bool} (h:J2v cs nd dp ng lost) (m:Bool):J2v (cs.setIfInBounds 802 (.bool m)) nd dp m lost:=
 ⟨by simpa using h.size,by rw[Array.getElem?_setIfInBounds_ne (by omega)];exact h.nd,by rw[Array.getElem?_setIfInBounds_ne (by omega)];exact h.dp,by rw[Array.getElem?_setIfInBounds_self_of_lt (by rw[h.size];omega)],by rw[Array.getElem?_setIfInBounds_ne (by omega)];exact h.lost⟩
theorem J2v.putLost {lost:Bool} (h:J2v cs nd dp ng lost) (m:Bool):J2v (cs.setIfInBounds 803 (.bool m)) nd dp ng m:=
 ⟨by simpa using h.size,by rw[Array.getElem?_setIfInBounds_ne (by omega)];exact h.nd,by rw[Array.getElem?_setIfInBounds_ne (by omega)];exact h.dp,by rw[Array.getElem?_setIfInBounds_ne (by omega)];exact h.ng,by rw[Array.getElem?_setIfInBounds_self_of_lt (by rw[h.size];omega)]⟩
structure J7n (cs:Array Value) (a:Dc) (ng:Bool):Prop where
 at_:J2v cs a.ds.length a.dp ng a.lost
 dig:J1o cs 0 a.ds
abbrev J13 (cs:Array Value):Obj:=.cells cs 344 (0,0)
def J6t (w0:World) (r:Hp) (b:Nat) (a:Dc) (ng:Bool) (e:Ending) (w':World):Prop:=
 e= .returned (.tuple #[])/\∃cs,J7n cs a ng/\J3 w0 [] w' ((b,J13 cs)::r)
structure DcW (w:World) (b:Nat) (nd:Nat) (dp:Int) (ng lost:Bool):Prop where
 c0:w.cell? ⟨b,800,none⟩=some (.int .i64 nd)
 c1:w.cell? ⟨b,801,none⟩=some (.int .i64 dp)
 c2:w.cell? ⟨b,802,none⟩=some (.bool ng)
 c3:w.cell? ⟨b,803,none⟩=some (.bool lost)
 fz:∀j,w.frozen? ⟨b,j,none⟩=false
 lt:b<w.heap.size
theorem J2v.walk {lost:Bool} (h:J2v cs nd dp ng lost) (hS:J3 w0 [] w ((b,J13 cs)::r)):DcW w b nd dp ng lost:=
 have hh:=hS.own.head
 ⟨by rw[J2 hh];exact h.nd,by rw[J2 hh];exact h.dp,by rw[J2 hh];exact h.ng,by rw[J2 hh];exact h.lost,fun j=>Jg hh j,Jf hh⟩
theorem J1o.cell (h:J1o cs off l) (hS:J3 w0 [] w ((b,J13 cs)::r)) (hd:l[i]? =some d):w.cell? ⟨b,off+i,none⟩=some (dgv d):=by
 rw[J2 hS.own.head];exact h i d hd
theorem J2v.some_ {lost:Bool} (h:J2v cs nd dp ng lost) (hS:J3 w0 [] w ((b,J13 cs)::r)) (i:Nat) (hi:i<800):∃v,w.cell? ⟨b,i,none⟩=some v:=by
 rw[J2 hS.own.head];exact⟨_,Array.getElem?_eq_getElem (by rw[h.size];omega)⟩
def Jy6 (w0 wr:World) (r:Hp) (b:Nat) (l:List Nat) (dp:Int) (ng lost:Bool) (k:Nat):Prop:=
 ∃cs,k<=l.length/\J2v cs k dp ng lost/\J1o cs 0 (l.take k)/\J3a (l.take k)=J3a l/\J3 w0 [] wr ((b,J13 cs)::r)
theorem Jf4 {lost:Bool} (hA:J2v cs l.length dp ng lost) (hD:J1o cs 0 l) (hl:l.length<=800) (hS:J3 w0 [] w ((b,J13 cs)::r)):
 Calls Tryz.prog 296 #[ptr b] w (J6t w0 r b (Dc.trim ⟨l,dp,lost⟩) ng):=by
 have hI:Jy6 w0 w r b l dp ng lost l.length:=⟨cs,Nat.le_refl _,hA,by rwa[List.take_length],by rw[List.take_length],hS⟩
 obtain⟨n,hn⟩:∃n,l.length=n:=⟨_,rfl⟩
 rw[hn] at hI hl;replace hI:=hid hI;replace hn:=hid hn;clear hA hD hS;go_enter Tryz.func296,Tryz.ntmps296;go_wp2_with fail;go_loopg [] n (fun k wr=>k<=n/\Hid (Jy6 w0 wr r b l dp ng lost k))
 case atStart=>exact⟨Nat.le_refl _,hI⟩
 case round=>
  obtain⟨hk0,hrel⟩:=hrel
  obtain⟨cs',hk,hA,hD,hT,hS⟩:=hrel.out
  have W:=hA.walk hS;have c0:=W.c0;have c1:=W.c1;have fz:=W.fz;have hlt:=W.lt;cases gk with
  |zero=>
   have hfin:∀nq,J6t w0 r b (Dc.trim ⟨l,dp,lost⟩) ng (.returned (.tuple #[])) ((wr.drewN nq).setCell ⟨b,801,none⟩ (.int .i64 0)):=fun nq=>by
    have e:Dc.trim ⟨l,dp,lost⟩=⟨[],0,lost⟩:=by unfold Dc.trim;simp only[<-hT];simp[J3a]
    rw[e];exact⟨rfl,_,⟨hA.putDp 0,fun j d hj=>by simp at hj⟩,(hS.drewN nq).set 801 _⟩
   replace hfin:=hid hfin;clear W hA hD hT hS hrel hI;go_wp2_with fail;go_quiet (fail);go_wp2_with fail;go_end0
   exact hfin.out nq
  |succ k=>
   obtain⟨d,hd⟩:∃d,l[k]? =some d:=⟨_,List.getElem?_eq_getElem (by omega)⟩
   have hd2:(l.take (k+1))[k]? =some d:=by rw[List.getElem?_take,if_pos (by omega),hd]
   have cd:=hD.cell hS hd2;rw[Nat.zero_add] at cd
   have hsn:l.take (k+1)=l.take k++[d]:=by
    rw[List.take_add_one,hd];rfl
   have hk8:(k:Int)<800:=by omega
   have hk9:k<800:=by omega
   by_cases h0:d=0
   ·subst h0
    have hfin:∀nq,Jy6 w0 ((wr.drewN nq).setCell ⟨b,800,none⟩ (.int .i64 k)) r b l dp ng lost k:=fun nq=>
     ⟨_,by omega,hA.putNd k,by have:=hD.take k;rw[List.take_take,Nat.min_eq_left (by omega)] at this;exact this.out 800 _ (.inr (by simp;omega)),by rw[<-hT,hsn,Jj9],(hS.drewN nq).set 800 _⟩
    have cd2:wr.cell? ⟨b,k,none⟩=some (.int .u8 48):=cd;replace hfin:=hid hfin;clear W hA hD hT hS hrel hI cd hd hd2 hsn;go_wp2_with fail;go_quiet (fail);go_wp2_with fail;go_roundg k
    case measure=>omega
    case rel=>exact⟨by omega,hid (hfin.out nq)⟩
   ·have hfin:∀nq,J6t w0 r b (Dc.trim ⟨l,dp,lost⟩) ng (.returned (.tuple #[])) (wr.drewN nq):=fun nq=>by
     have e0:J3a l=l.take (k+1):=by rw[<-hT,hsn,Jm8 h0]
     have e:Dc.trim ⟨l,dp,lost⟩=⟨l.take (k+1),dp,lost⟩:=by
      unfold Dc.trim;simp only[e0];rw[if_neg (by rw[hsn];simp)]
     rw[e]
     exact⟨rfl,_,⟨by have:(l.take (k+1)).length=k+1:=by simp;omega
                     show J2v cs' (l.take (k+1)).length _ _ _
                     rw[this];exact hA,hD⟩,hS.drewN nq⟩
    obtain⟨c,hc⟩:∃c,c=48+d:=⟨_,rfl⟩
    have cd2:wr.cell? ⟨b,k,none⟩=some (.int .u8 (c:Int)):=by rw[hc];exact cd
    have t1:((c:Int)==48)=false:=by simp;omega
    have t2:(c==48)=false:=by simp;omega
    replace hfin:=hid hfin;replace hc:=hid hc;clear W hA hD hT hS hrel hI cd hd hd2 hsn h0;go_wp2_with fail;go_quiet (fail);go_wp2_with fail;go_end0
    exact hfin.out nq
def b2 (b:Bool):Nat:=if b then 1 else 0
theorem Jxa {a c:Nat} (h:a+b=c) (hc:c<18446744073709551616):IntKind.u64.wrap ((a:Int)+(b:Int))=(c:Int):=by
 rw[IntKind.wrap_u64];omega
theorem Jzi (n:Nat) (h:n<18446744073709551616):bits .and .u64 (n:Int) 1=((n%2:Nat):Int):=by
 have:=bits_and_u64_nat n 1 h (by decide)
 rw[Nat.and_one_is_mod] at this;exact this
theorem J4w (x:Int) (h0: -400<=x) (h1:x<=400) (w:World):
 Calls Tryz.prog 281 #[.int .i64 x] w fun e w'=>e= .returned (.int .i64 (x*108853/32768))/\w'=w:=by
 go_enter Tryz.func281,Tryz.ntmps281;go_wp2_with fail;go_ret;exact⟨rfl,rfl⟩
theorem J8x (x:Int) (h0: -2000<=x) (h1:x<=2000) (w:World):
 Calls Tryz.prog 245 #[.int .i64 x] w fun e w'=>e= .returned (.int .i64 (x*78913/262144))/\w'=w:=by
 go_enter Tryz.func245,Tryz.ntmps245;go_wp2_with fail;go_ret;exact⟨rfl,rfl⟩
theorem Jnl (x:Int) (h0: -2000<=x) (h1:x<=2000) (w:World):
 Calls Tryz.prog 291 #[.int .i64 x] w fun e w'=>e= .returned (.int .i64 ((x*631305 - 261663)/2097152))/\w'=w:=by
 go_enter Tryz.func291,Tryz.ntmps291;go_wp2_with fail;go_ret;exact⟨rfl,rfl⟩
theorem J46 (u:Nat) (h1:u<=18446744073709551600) (w:World):
 Calls Tryz.prog 286 #[.int .u64 u] w fun e w'=>e= .returned (.int .u64 (((u+1+u/4%2)/4:Nat):Int))/\w'=w:=by
 have hb:=hid (Jzi (u/4) (by omega))
 have hs:=hid (Jxa (a:=u+1) (b:=u/4%2) rfl (by omega))
 go_enter Tryz.func286,Tryz.ntmps286;go_wp2_with fail;go_ret;have e:(u:Int)/4=((u/4:Nat):Int):=by omega
 have e2:(u:Int)+1=((u+1:Nat):Int):=by omega
 rw[e,hb.out,e2,hs.out];exact⟨rfl,rfl⟩
theorem J7p (u:Nat) (h1:u<=18446744073709551600) (w:World):
 Calls Tryz.prog 293 #[.int .u64 u] w fun e w'=>e= .returned (.int .u64 (((u+3)/4:Nat):Int))/\w'=w:=by
 go_enter Tryz.func293,Tryz.ntmps293;go_wp2_with fail;go_ret;refine⟨?_,rfl⟩
 congr 1
theorem J6c (u:Nat) (h1:u<=18446744073709551615) (w:World):
 Calls Tryz.prog 294 #[.int .u64 u] w fun e w'=>e= .returned (.int .u64 ((u/4:Nat):Int))/\w'=w:=by
 go_enter Tryz.func294,Tryz.ntmps294;go_wp2_with fail;go_ret;refine⟨?_,rfl⟩
 congr 1
theorem J86 (u d:Nat) (hd:d<=1) (h1:u<=18446744073709551600) (w:World):
 Calls Tryz.prog 292 #[.int .u64 u,.int .i64 d] w fun e w'=>e= .returned (.int .u64 ((u+d:Nat):Int))/\w'=w:=by
 go_enter Tryz.func292,Tryz.ntmps292;go_wp2_with fail;go_ret;refine⟨?_,rfl⟩
 congr 1
theorem J5b (u d:Nat) (hd:d<=1) (h0:d<=u) (h1:u<=18446744073709551600) (w:World):
 Calls Tryz.prog 292 #[.int .u64 u,.int .i64 (-d)] w fun e w'=>e= .returned (.int .u64 ((u - d:Nat):Int))/\w'=w:=by
 go_enter Tryz.func292,Tryz.ntmps292;go_wp2_with fail;go_ret
 have e1:IntKind.u64.wrap (u+IntKind.u64.wrap (-(d:Int)))=((u - d:Nat):Int):=by
  rw[IntKind.wrap_u64,IntKind.wrap_u64];omega
 rw[e1];exact⟨rfl,rfl⟩
theorem J8n (b:Bool) (w:World):
 Calls Tryz.prog 259 #[.bool b] w fun e w'=>e= .returned (.int .u64 (b2 b))/\w'=w:=by
 cases b<;>(go_enter Tryz.func259,Tryz.ntmps259;go_wp2_with fail;go_ret;exact⟨rfl,rfl⟩)
theorem Jfn (b:Bool) (w:World):
 Calls Tryz.prog 246 #[.bool b] w fun e w'=>e= .returned (.int .i64 (b2 b))/\w'=w:=by
 cases b<;>(go_enter Tryz.func246,Tryz.ntmps246;go_wp2_with fail;go_ret;exact⟨rfl,rfl⟩)
theorem Jxb (w:World):
 Calls Tryz.prog 284 #[.int .u64 9007199254740992] w fun e w'=>e= .returned (.int .u64 36028797018963966)/\w'=w:=by
 go_enter Tryz.func284,Tryz.ntmps284;go_wp2_with fail;go_ret;exact⟨rfl,rfl⟩
theorem J9w (n:Int) (w:World):(callFunc 260 #[.int .u64 n]).run Tryz.prog w= .ok (.value (.float .f64 n.toNat)) w:=by
 rw[run_callFunc_extern (e:=Extern.MathFloatBits.float64frombits) Tryz.func260 (by kernel_rfl) (by kernel_rfl) (by kernel_rfl) (by kernel_rfl)]
 rfl
theorem J5v (n:Int) (w:World):(callFunc 155 #[.int .u64 n]).run Tryz.prog w= .ok (.value (.float .f64 n.toNat)) w:=by
 rw[run_callFunc_extern (e:=Extern.MathFloatBits.float64frombits) Tryz.func155 (by kernel_rfl) (by kernel_rfl) (by kernel_rfl) (by kernel_rfl)]
 rfl
theorem J78 (n:Nat) (w:World):(callFunc 264 #[.float .f64 n]).run Tryz.prog w= .ok (.value (.int .u64 n)) w:=by
 rw[run_callFunc_extern (e:=Extern.MathFloatBits.float64bits) Tryz.func264 (by kernel_rfl) (by kernel_rfl) (by kernel_rfl) (by kernel_rfl)]
 rfl
theorem Jkw (n:Nat) (w:World):(callFunc 71 #[.float .f64 n]).run Tryz.prog w= .ok (.value (.int .u64 n)) w:=by
 rw[run_callFunc_extern (e:=Extern.MathFloatBits.float64bits) Tryz.func71 (by kernel_rfl) (by kernel_rfl) (by kernel_rfl) (by kernel_rfl)]
 rfl
theorem Jwr (w:World):Calls Tryz.prog 154 #[.int .i64 1] w fun e w'=>e= .returned (.float .f64 9218868437227405312)/\w'=w:=by
 have h:=fun w=>J5v 9218868437227405312 w
 go_enter Tryz.func154,Tryz.ntmps154;go_wp2_with fail;go_ret;exact⟨rfl,rfl⟩
theorem Jr4 (w:World):Calls Tryz.prog 154 #[.int .i64 (-1)] w fun e w'=>e= .returned (.float .f64 18442240474082181120)/\w'=w:=by
 have h:=fun w=>J5v 18442240474082181120 w
 go_enter Tryz.func154,Tryz.ntmps154;go_wp2_with fail;go_ret;exact⟨rfl,rfl⟩
def Jt1 (b:Nat):Bool:=!(FloatKind.f64.format.order b b==some .eq)
theorem J8v (b:Nat) (w:World):Calls Tryz.prog 196 #[.float .f64 b] w fun e w'=>e= .returned (.bool (Jt1 b))/\w'=w:=by
 go_enter Tryz.func196,Tryz.ntmps196;go_wp2_with fail;go_ret;exact⟨rfl,rfl⟩
def Joz (p:Int):Nat:=
 if 0<=p then
  if(10 ^p.toNat).log2<=127 then 10 ^p.toNat*2 ^(127 - (10 ^p.toNat).log2) else(10 ^p.toNat+2 ^((10 ^p.toNat).log2 - 127) - 1)/2 ^((10 ^p.toNat).log2 - 127)
 else 2 ^(128+(10 ^(-p).toNat).log2)/10 ^(-p).toNat+1
def J2r (p:Int):Nat:=Joz p/2 ^64+if Joz p%2 ^64=0 then 0 else 1
def J36 (p:Int):Nat:=if Joz p%2 ^64=0 then 0 else 2 ^64 - Joz p%2 ^64
def Jzv (i:Nat):Bool:=decide (2 ^63<=J2r ((i:Int) - 348))&&decide (J2r ((i:Int) - 348)<2 ^64)&&decide (J36 ((i:Int) - 348)<2 ^64)
theorem Jyu:(List.range 696).all Jzv=true:=by decide+kernel
theorem Jbf (h:i<696):2 ^63<=J2r ((i:Int) - 348)/\J2r ((i:Int) - 348)<2 ^64/\J36 ((i:Int) - 348)<2 ^64:=by
 have:=List.all_eq_true.1 Jyu i (by simpa using h)
 simpa[Jzv,Bool.and_eq_true,decide_eq_true_eq,and_assoc] using this
abbrev J1y (hi lo:Nat) (s:Int):Obj:=.cells #[.int .u64 hi,.int .u64 lo,.int .i64 s] 366 (0,0)
structure J49 (w:World):Prop where
 hi:∀i:Nat,i<696->w.cell? ⟨16,i*2,none⟩=some (.int .u64 (J2r ((i:Int) - 348)))
 lo:∀i:Nat,i<696->w.cell? ⟨16,i*2+1,none⟩=some (.int .u64 (J36 ((i:Int) - 348)))
theorem K4 (hS:J3 w0 [] w r) {v:Value} (h:w0.cell? ⟨b,i,none⟩=some v):w.cell? ⟨b,i,none⟩=some v:=by
 have hb:b<w0.heap.size:=by
  rcases Nat.lt_or_ge b w0.heap.size with hb|hb
  ·exact hb
  ·simp[World.cell?,Array.getElem?_eq_none hb] at h
 have:=hS.same b hb (by simp)
 simp only[World.cell?] at h⊢;rw[this];exact h
theorem J92 {hi lo:Nat} {s:Int} (hS:J3 w0 [] w ((b,J1y hi lo s)::r)) (hF:J49 w0) (e:Int) (h0: -3000<=e) (h1:e<=3000) (i:Nat) (hi':i<696) (lp:Int) (h2: -3000<=lp) (h3:lp<=3000):
 Calls Tryz.prog 282 #[ptr b,.int .i64 e,.int .i64 ((i:Int) - 348),.int .i64 lp] w fun en w'=>en= .returned (.tuple #[])/\J3 w0 [] w' ((b,J1y (J2r ((i:Int) - 348)) (J36 ((i:Int) - 348)) (-(e+lp+3)))::r):=by
 have c0:=K4 hS (hF.hi i hi');have c1:=K4 hS (hF.lo i hi');have d0:=J2 hS.own.head 0;have d1:=J2 hS.own.head 1;have d2:=J2 hS.own.head 2;have fz:=fun j=>Jg hS.own.head j
 have hlt:=Jf hS.own.head;have hfin:=hid (((hS.set 0 (.int .u64 (J2r ((i:Int) - 348)))).set 1 (.int .u64 (J36 ((i:Int) - 348)))).set 2 (.int .i64 (-(e+lp+3))))
 have hne:¬16=b:=by
  intro h
  have:=hS.new b (by simp)
  have hb:(16:Nat)<w0.heap.size:=by
   rcases Nat.lt_or_ge 16 w0.heap.size with hb|hb
   ·exact hb
   ·have:=hF.hi 0 (by decide);simp[World.cell?,Array.getElem?_eq_none hb] at this
  simp at this;omega
 have hne2:¬b=16:=fun h=>hne h.symm
 have z1:0<=(i:Int) - 348 - -348:=by omega
 have z2:((i:Int) - 348 - -348).toNat=i:=by omega
 have z3:(i:Int) - 348 - -348=i:=by omega
 generalize J2r ((i:Int) - 348)=H at *;generalize J36 ((i:Int) - 348)=L at *;clear hS hF;go_enter Tryz.func282,Tryz.ntmps282;go_wp2_with fail;go_end0
 exact⟨rfl,hfin.out⟩
end Go.Proofs.YtncbcaabanoeoaaGreatDoor
