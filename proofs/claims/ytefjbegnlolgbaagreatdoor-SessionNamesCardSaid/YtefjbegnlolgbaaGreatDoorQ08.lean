/-
The plain law of one row of places (open addressing, linear probing, graves): what find answers, and what put and bury make of what the row holds. No program in sight.
-/
import Derived.Test.YtefjbegnlolgbaaGreatDoorQ07
set_option linter.unusedVariables false
set_option linter.unusedSimpArgs false
set_option maxRecDepth 100000
set_option maxHeartbeats 8000000
namespace Go.Proofs.YtefjbegnlolgbaaGreatDoor
variable {i c c':Nat}{k:ByteArray}{hs:ByteArray → Nat}
structure Pl where
 st:Int
 key:ByteArray
 n:Int
variable {ps:List Pl}{q:Pl}
def Kq:Pl:=⟨0,ByteArray.empty,0⟩
def J16:Pl:=⟨2,ByteArray.empty,0⟩
abbrev KV:=List (ByteArray×Int)
variable {M:KV}
def J5y (p:Pl):Option (ByteArray×Int):=if p.st=1 then some (p.key,p.n) else none
def Kw (ps:List Pl):KV:=ps.filterMap J5y
def J2p (ps:List Pl) (s:Int):Nat:=ps.countP (fun p=>p.st==s)
def Ja (ps:List Pl) (i:Nat):Pl:=ps.getD i Kq
def J3j (ps:List Pl) (k:ByteArray) (L:Nat):Nat->Nat->Option Nat->Option Nat×Bool
 |0,_,free=>(free,false)
 |f+1,i,free=>
  if(Ja ps i).st=1/\(Ja ps i).key=k then(some i,true)
  else if(Ja ps i).st=0 then(if free=none then some i else free,false)
  else J3j ps k L f ((i+1)%L) (if(Ja ps i).st≠1/\free=none then some i else free)
def J08 (hs:ByteArray->Nat) (ps:List Pl) (k:ByteArray):Option Nat×Bool:=J3j ps k ps.length ps.length (hs k%ps.length) none
def K3 (hs:ByteArray->Nat) (L:Nat) (k:ByteArray) (d:Nat):Nat:=(hs k+d)%L
theorem J4x (hs:ByteArray->Nat) (L:Nat) (k:ByteArray) (d:Nat):(K3 hs L k d+1)%L=K3 hs L k (d+1):=by
 unfold K3;rw[Nat.mod_add_mod];congr 1
structure J32 (hs:ByteArray->Nat) (ps:List Pl):Prop where
 path:∀(i:Nat) (p:Pl),ps[i]? =some p->p.st=1->∃d,d<ps.length/\i=K3 hs ps.length p.key d/\∀j,j<d->(Ja ps (K3 hs ps.length p.key j)).st≠0
theorem J2w {p:Pl} (h:ps[i]? =some p):Ja ps i=p:=by simp[Ja,List.getD,h]
theorem J3z (h:i<ps.length):ps[i]? =some (Ja ps i):=by simp[Ja,List.getD,List.getElem?_eq_getElem h]
structure Jly (hs:ByteArray->Nat) (ps:List Pl) (k:ByteArray) (j:Nat) (free:Option Nat):Prop where
 none:∀d,d<j->(Ja ps (K3 hs ps.length k d)).st≠0/\¬((Ja ps (K3 hs ps.length k d)).st=1/\(Ja ps (K3 hs ps.length k d)).key=k)
 free:match free with
  | .none=>∀d,d<j->(Ja ps (K3 hs ps.length k d)).st=1
  |some f=>∃d,d<j/\f=K3 hs ps.length k d/\(Ja ps f).st≠1/\∀e,e<d->(Ja ps (K3 hs ps.length k e)).st=1
theorem J5s {a L:Nat} (hi:i<L):∃d,d<L/\i=(a+d)%L:=by
 have hL:0<L:=by omega
 have ha:=Nat.mod_lt a hL;refine⟨(i+L - a%L)%L,Nat.mod_lt _ hL,?_⟩
 rw[Nat.add_mod,Nat.mod_mod];rcases Nat.lt_or_ge i (a%L) with h|h
 ·rw[Nat.mod_eq_of_lt (show i+L - a%L<L by omega),show a%L+(i+L - a%L)=i+L by omega,Nat.add_mod_right,Nat.mod_eq_of_lt hi]
 ·rw[show i+L - a%L=(i - a%L)+L by omega,Nat.add_mod_right,Nat.mod_eq_of_lt (show i - a%L<L by omega),show a%L+(i - a%L)=i by omega,Nat.mod_eq_of_lt hi]
structure Jcf (hs:ByteArray->Nat) (ps:List Pl) (k:ByteArray) (r:Option Nat×Bool):Prop where
 yes:r.2=true->∃i,r.1=some i/\i<ps.length/\(Ja ps i).st=1/\(Ja ps i).key=k
 no:r.2=false->(∀(i:Nat) (p:Pl),ps[i]? =some p->p.st=1->p.key≠k)/\
  (match r.1 with
   |none=>∀i,i<ps.length->(Ja ps i).st=1
   |some f=>f<ps.length/\(Ja ps f).st≠1/\∃d,d<ps.length/\f=K3 hs ps.length k d/\∀e,e<d->(Ja ps (K3 hs ps.length k e)).st≠0)
theorem J5j (hs:ByteArray->Nat) {L:Nat} (hL:0<L) (k:ByteArray) (d:Nat):K3 hs L k d<L:=Nat.mod_lt _ hL
theorem Jgd (hs:ByteArray->Nat) (ps:List Pl) (k:ByteArray) (hok:J32 hs ps) (hL:0<ps.length):∀(f j:Nat) (free:Option Nat),f+j=ps.length->Jly hs ps k j free->
 Jcf hs ps k (J3j ps k ps.length f (K3 hs ps.length k j) free):=by
 intro f
 induction f with
 |zero=>
  intro j free hj hw
  have hj':j=ps.length:=by omega
  subst hj'
  have absent:∀(i:Nat) (p:Pl),ps[i]? =some p->p.st=1->p.key≠k:=by
   intro i p hp hs1 hk
   have hi:i<ps.length:=(List.getElem?_eq_some_iff.1 hp).1;obtain⟨d,hd,he⟩:=J5s (a:=hs k) hi
   have hd2:=(hw.none d hd).2;rw[show K3 hs ps.length k d=i from he.symm,J2w hp] at hd2;exact hd2 ⟨hs1,hk⟩
  refine⟨by simp[J3j],fun _=>⟨absent,?_⟩⟩
  have hfree:=hw.free;cases free with
  |none=>
   simp only[J3j];intro i hi
   obtain⟨d,hd,he⟩:=J5s (a:=hs k) hi
   have:=hfree d hd
   rwa[show K3 hs ps.length k d=i from he.symm] at this
  |some fr=>
   obtain⟨d,hd,he,hst,hall⟩:=hfree
   exact⟨by rw[he];exact J5j hs hL k d,hst,d,hd,he,fun e hed=>by rw[hall e hed];decide⟩
 |succ f ih=>
  intro j free hj hw
  have hjL:j<ps.length:=by omega
  have hatL:=J5j hs hL k j;simp only[J3j];by_cases h1:(Ja ps (K3 hs ps.length k j)).st=1/\(Ja ps (K3 hs ps.length k j)).key=k
  ·rw[if_pos h1]
   exact⟨fun _=>⟨_,rfl,hatL,h1.1,h1.2⟩,by simp⟩
  ·rw[if_neg h1]
   by_cases h0:(Ja ps (K3 hs ps.length k j)).st=0
   ·rw[if_pos h0]
    refine⟨by simp,fun _=>⟨?_,?_⟩⟩
    ·intro i p hp hs1 hk
     obtain⟨d,hd,he,hall⟩:=hok.path i p hp hs1
     rw[hk] at he hall;rcases Nat.lt_trichotomy d j with hlt|heq|hgt
     ·have:=(hw.none d hlt).2
      rw[<-he,J2w hp] at this;exact this ⟨hs1,hk⟩
     ·subst heq
      rw[<-he,J2w hp,hs1] at h0;exact absurd h0 (by decide)
     ·exact hall j hgt h0
    ·have hfree:=hw.free
     cases free with
     |none=>exact⟨hatL,by rw[h0];decide,j,hjL,rfl,fun e hed=>(hw.none e hed).1⟩
     |some fr=>
      obtain⟨d,hd,he,hst,hall⟩:=hfree
      exact⟨by rw[he];exact J5j hs hL k d,hst,d,by omega,he,fun e hed=>by rw[hall e hed];decide⟩
   ·rw[if_neg h0,J4x]
    refine ih (j+1) _ (by omega) ⟨fun d hd=>?_,?_⟩
    ·rcases Nat.lt_or_ge d j with hlt|hge
     ·exact hw.none d hlt
     ·obtain rfl:d=j:=by omega
      exact⟨h0,h1⟩
    ·have hfree:=hw.free
     cases free with
     |none=>
      by_cases hs1:(Ja ps (K3 hs ps.length k j)).st=1
      ·simp only[hs1,ne_eq,not_true,false_and,if_false]
       intro d hd
       rcases Nat.lt_or_ge d j with hlt|hge
       ·exact hfree d hlt
       ·obtain rfl:d=j:=by omega
        exact hs1
      ·simp only[hs1,ne_eq,not_false_iff,true_and,eq_self,if_true]
       exact⟨j,by omega,rfl,fun e hed=>hfree e hed⟩
     |some fr=>
      obtain⟨d,hd,he,hst,hall⟩:=hfree
      simp only[reduceCtorEq,and_false,if_false];exact⟨d,by omega,he,hst,hall⟩
theorem J34 (hs:ByteArray->Nat) (ps:List Pl) (k:ByteArray) (hok:J32 hs ps) (hL:0<ps.length):Jcf hs ps k (J08 hs ps k):=by
 have:=Jgd hs ps k hok hL ps.length 0 none (by omega) ⟨by intro d hd;omega,by intro d hd;omega⟩
 simpa[K3,J08] using this
theorem Jbv (hi:i<ps.length):ps=ps.take i++Ja ps i::ps.drop (i+1):=by
 rw[show Ja ps i=ps[i] by simp[Ja,List.getD,List.getElem?_eq_getElem hi],<-List.drop_eq_getElem_cons hi,List.take_append_drop]
theorem J4p {n:Int} (hi:i<ps.length) (h:(Ja ps i).st≠1):(Kw (ps.set i ⟨1,k,n⟩)).Perm ((k,n)::Kw ps):=by
 have e:=Jbv hi
 have e2:ps.set i ⟨1,k,n⟩=ps.take i++⟨1,k,n⟩::ps.drop (i+1):=by
  rw[List.set_eq_take_append_cons_drop,if_pos hi]
 rw[e2];conv=>rhs;rw[e]
 simp only[Kw,List.filterMap_append,List.filterMap_cons];rw[show J5y ⟨1,k,n⟩=some (k,n) by simp[J5y],show J5y (Ja ps i)=none by simp[J5y,h]]
 exact List.perm_middle
theorem J1x (hq:q.st≠1) (hi:i<ps.length) (h:(Ja ps i).st=1):(Kw ps).Perm (((Ja ps i).key,(Ja ps i).n)::Kw (ps.set i q)):=by
 have e:=Jbv hi
 have e2:ps.set i q=ps.take i++q::ps.drop (i+1):=by
  rw[List.set_eq_take_append_cons_drop,if_pos hi]
 rw[e2];conv=>lhs;rw[e]
 simp only[Kw,List.filterMap_append,List.filterMap_cons];rw[show J5y q=none by simp[J5y,hq],show J5y (Ja ps i)=some ((Ja ps i).key,(Ja ps i).n) by simp[J5y,h]]
 exact List.perm_middle
theorem J4e {n:Int} (hi:i<ps.length) (h:(Ja ps i).st=1):
 ∃r,(Kw ps).Perm (((Ja ps i).key,(Ja ps i).n)::r)/\(Kw (ps.set i ⟨(Ja ps i).st,(Ja ps i).key,n⟩)).Perm (((Ja ps i).key,n)::r):=by
 refine⟨Kw (ps.set i J16),J1x (by decide) hi h,?_⟩
 have hl:i<(ps.set i J16).length:=by simpa using hi
 have:=J4p (ps:=ps.set i J16) (i:=i) (k:=(Ja ps i).key) (n:=n) hl (by simp[Ja,List.getD,List.getElem?_set,hi,J16])
 rw[List.set_set] at this;rw[h];exact this
theorem J2z {n:Int}:(k,n)∈Kw ps ↔ ∃(i:Nat) (p:Pl),ps[i]? =some p/\p.st=1/\p.key=k/\p.n=n:=by
 simp only[Kw,List.mem_filterMap];constructor
 ·rintro⟨p,hp,h⟩
  obtain⟨i,hi⟩:=List.mem_iff_getElem?.1 hp
  by_cases hs:p.st=1
  ·simp[J5y,hs] at h
   exact⟨i,p,hi,hs,h.1,h.2⟩
  ·simp[J5y,hs] at h
 ·rintro⟨i,p,hp,hs,rfl,rfl⟩
  exact⟨p,List.mem_iff_getElem?.2 ⟨i,hp⟩,by simp[J5y,hs]⟩
theorem J29 {j:Nat} (hi:i<ps.length):Ja (ps.set i q) j=if j=i then q else Ja ps j:=by
 simp only[Ja,List.getD,List.getElem?_set];by_cases h:i=j
 ·subst h;simp[hi]
 ·simp[h,Ne.symm h]
theorem J32.set_grave (h:J32 hs ps) (hi:i<ps.length) (hq0:q.st≠0) (hq1:q.st≠1):J32 hs (ps.set i q):=by
 constructor
 intro j p hp hs1
 rw[List.getElem?_set] at hp;by_cases hij:i=j
 ·subst hij
  simp[hi] at hp;subst hp;exact absurd hs1 hq1
 ·simp[hij] at hp
  obtain⟨d,hd,he,hall⟩:=h.path j p hp hs1
  refine⟨d,by simpa using hd,by simpa using he,fun e hed=>?_⟩
  rw[List.length_set,J29 hi];split
  ·exact hq0
  ·exact hall e hed
theorem J32.set_full {n:Int} (h:J32 hs ps) (hi:i<ps.length)
 (hp:∃d,d<ps.length/\i=K3 hs ps.length k d/\∀e,e<d->(Ja ps (K3 hs ps.length k e)).st≠0):J32 hs (ps.set i ⟨1,k,n⟩):=by
  constructor
  intro j p hpj hs1
  rw[List.getElem?_set] at hpj;by_cases hij:i=j
  ·subst hij
   simp[hi] at hpj;subst hpj;obtain⟨d,hd,he,hall⟩:=hp
   refine⟨d,by simpa using hd,by simpa using he,fun e hed=>?_⟩
   rw[List.length_set,J29 hi];split
   ·show(1:Int)≠0
    decide
   ·exact hall e hed
  ·simp[hij] at hpj
   obtain⟨d,hd,he,hall⟩:=h.path j p hpj hs1
   refine⟨d,by simpa using hd,by simpa using he,fun e hed=>?_⟩
   rw[List.length_set,J29 hi];split
   ·show(1:Int)≠0
    decide
   ·exact hall e hed
theorem J32.set_n {n:Int} (h:J32 hs ps) (hi:i<ps.length):J32 hs (ps.set i ⟨(Ja ps i).st,(Ja ps i).key,n⟩):=by
 have hst:∀j,(Ja (ps.set i ⟨(Ja ps i).st,(Ja ps i).key,n⟩) j).st=(Ja ps j).st:=by
  intro j
  rw[J29 hi];split
  ·rename_i e;rw[e]
  ·rfl
 constructor
 intro j p hp hs1
 obtain⟨p',hp',h1,h2⟩:∃p',ps[j]? =some p'/\p'.st=p.st/\p'.key=p.key:=by
  rw[List.getElem?_set] at hp;by_cases hij:i=j
  ·subst hij
   simp[hi] at hp;subst hp;exact⟨Ja ps i,J3z hi,rfl,rfl⟩
  ·simp[hij] at hp
   exact⟨p,hp,rfl,rfl⟩
 obtain⟨d,hd,he,hall⟩:=h.path j p' hp' (h1.trans hs1)
 rw[h2] at he hall;refine⟨d,by simpa using hd,by simpa using he,fun e hed=>?_⟩
 rw[List.length_set,hst];exact hall e hed
theorem J5c (s:Int) (hi:i<ps.length):J2p (ps.set i q) s+(if(Ja ps i).st=s then 1 else 0)=J2p ps s+(if q.st=s then 1 else 0):=by
 have e:=Jbv hi
 have e2:ps.set i q=ps.take i++q::ps.drop (i+1):=by
  rw[List.set_eq_take_append_cons_drop,if_pos hi]
 have c1:J2p ps s=J2p (ps.take i) s+((if(Ja ps i).st=s then 1 else 0)+J2p (ps.drop (i+1)) s):=by
  conv=>lhs;rw[e]
  simp only[J2p,List.countP_append,List.countP_cons,beq_iff_eq];omega
 rw[e2,c1];simp only[J2p,List.countP_append,List.countP_cons,beq_iff_eq];omega
theorem J5b (ps:List Pl):J2p ps 1=(Kw ps).length:=by
 induction ps with
 |nil=>rfl
 |cons p ps ih=>
  simp only[J2p,Kw,List.countP_cons,List.filterMap_cons] at ih⊢;by_cases h:p.st=1<;>simp[J5y,h]<;>omega
theorem Ji0 (ps:List Pl) (s:Int):J2p ps s<=ps.length:=List.countP_le_length
theorem Jki (h:∀i,i<ps.length->(Ja ps i).st=1):J2p ps 1=ps.length:=by
 rw[J2p,List.countP_eq_length];intro p hp
 obtain⟨i,hi⟩:=List.mem_iff_getElem?.1 hp
 have:=h i (List.getElem?_eq_some_iff.1 hi).1
 rw[J2w hi] at this;simp[this]
theorem J32.made (hs:ByteArray->Nat) (n:Nat):J32 hs (List.replicate n Kq):=by
 constructor
 intro i p hp hs1
 rw[List.getElem?_replicate] at hp;split at hp
 ·cases hp;exact absurd hs1 (by decide)
 ·cases hp
theorem J96 (n:Nat):Kw (List.replicate n Kq)=[]:=by
 induction n with
 |zero=>rfl
 |succ n ih=>simp only[List.replicate_succ,Kw,List.filterMap_cons] at ih⊢;simp[J5y,Kq] at ih⊢
theorem Jcu (n:Nat) (s:Int) (hs:s≠0):J2p (List.replicate n Kq) s=0:=by
 rw[J2p,List.countP_eq_zero];intro p hp
 rw[(List.mem_replicate.1 hp).2];simpa[Kq] using Ne.symm hs
structure Row where
 ps:List Pl
 fl:Int
 gr:Int
variable {r:Row}
structure Tb where
 old:Row
 fresh:Row
 moving:Bool
 next:Nat
variable {T:Tb}
def J3f:Row:=⟨[],0,0⟩
structure J14 (hs:ByteArray->Nat) (r:Row):Prop where
 ok:J32 hs r.ps
 fl:r.fl=J2p r.ps 1
 gr:r.gr=J2p r.ps 2
structure Jn (hs:ByteArray->Nat) (T:Tb) (M:KV) (c:Nat):Prop where
 old:J14 hs T.old
 fresh:J14 hs T.fresh
 len:8<=T.old.ps.length
 lenB:T.old.ps.length<=1099511627776
 perm:(Kw T.old.ps++Kw T.fresh.ps).Perm M
 nodup:(M.map Prod.fst).Nodup
 idle:T.moving=false->T.fresh=J3f/\T.next=0
 busy:T.moving=true->T.next<T.old.ps.length/\8<=T.fresh.ps.length/\T.fresh.ps.length<=1099511627776/\T.old.ps.length<=2*T.fresh.ps.length+1/\
  4*M.length+c<=T.fresh.ps.length+T.next/\∀i,i<T.next->(Ja T.old.ps i).st≠1
theorem Jn.weak (h:Jn hs T M c) (hc:c'<=c):Jn hs T M c':=
 ⟨h.old,h.fresh,h.len,h.lenB,h.perm,h.nodup,h.idle,fun m=>by
  obtain⟨a1,a2,a3,a4,a5,a6⟩:=h.busy m
  exact⟨a1,a2,a3,a4,by omega,a6⟩⟩
theorem Jap (hs:ByteArray->Nat):J14 hs J3f:=⟨⟨by simp[J3f]⟩,rfl,rfl⟩
theorem Jdg (hs:ByteArray->Nat) (n:Nat):J14 hs ⟨List.replicate n Kq,0,0⟩:=
 ⟨J32.made hs n,by rw[Jcu n 1 (by decide)];rfl,by rw[Jcu n 2 (by decide)];rfl⟩
def Jao:Tb:=⟨⟨List.replicate 8 Kq,0,0⟩,J3f,false,0⟩
theorem Jiu (hs:ByteArray->Nat):Jn hs Jao [] 4:=by
 refine⟨Jdg hs 8,Jap hs,by simp[Jao],by simp[Jao],?_,by simp,fun _=>⟨rfl,rfl⟩,by simp[Jao]⟩
 simp only[Jao,J96,J3f];exact List.Perm.refl _
def Row.putAt (r:Row) (i:Nat) (k:ByteArray) (n:Int):Row:=
 if(Ja r.ps i).st=1 then⟨r.ps.set i ⟨1,k,n⟩,r.fl,r.gr⟩
 else⟨r.ps.set i ⟨1,k,n⟩,r.fl+1,if(Ja r.ps i).st=2 then r.gr - 1 else r.gr⟩
def Row.bury (r:Row) (i:Nat):Row:=⟨r.ps.set i J16,r.fl - 1,r.gr+1⟩
def Row.setN (r:Row) (i:Nat) (n:Int):Row:=⟨r.ps.set i ⟨(Ja r.ps i).st,(Ja r.ps i).key,n⟩,r.fl,r.gr⟩
theorem J14.bury (h:J14 hs r) (hi:i<r.ps.length) (h1:(Ja r.ps i).st=1):J14 hs (r.bury i):=by
 have c1:=J5c (q:=J16) 1 hi;have c2:=J5c (q:=J16) 2 hi;have e1:J16.st=2:=rfl;rw[h1,e1] at c1 c2;refine⟨h.ok.set_grave hi (by decide) (by decide),?_,?_⟩
 ·have:=h.fl;simp only[Row.bury] at *;simp at c1;omega
 ·have:=h.gr;simp only[Row.bury] at *;simp at c2;omega
theorem J14.setN {n:Int} (h:J14 hs r) (hi:i<r.ps.length):J14 hs (r.setN i n):=by
 have c1:=J5c (q:=⟨(Ja r.ps i).st,(Ja r.ps i).key,n⟩) 1 hi;have c2:=J5c (q:=⟨(Ja r.ps i).st,(Ja r.ps i).key,n⟩) 2 hi;refine⟨h.ok.set_n hi,?_,?_⟩
 ·have:=h.fl;simp only[Row.setN] at *;omega
 ·have:=h.gr;simp only[Row.setN] at *;omega
structure J31 (hs:ByteArray->Nat) (ps:List Pl) (k:ByteArray) (i:Nat):Prop where
 lt:i<ps.length
 free:(Ja ps i).st≠1
 path:∃d,d<ps.length/\i=K3 hs ps.length k d/\∀e,e<d->(Ja ps (K3 hs ps.length k e)).st≠0
theorem J14.putAt {n:Int} (h:J14 hs r) (hp:J31 hs r.ps k i):J14 hs (r.putAt i k n):=by
 have c1:=J5c (q:=⟨1,k,n⟩) 1 hp.lt;have c2:=J5c (q:=⟨1,k,n⟩) 2 hp.lt;have hf:=hp.free;unfold Row.putAt;rw[if_neg hf];refine⟨h.ok.set_full hp.lt hp.path,?_,?_⟩
 ·have:=h.fl;simp[hf] at c1;simp only;omega
 ·have:=h.gr
  simp only
  by_cases h2:(Ja r.ps i).st=2
  ·simp[h2] at c2⊢;omega
  ·simp[h2] at c2⊢;omega
theorem J4o {n:Int} (hi:i<r.ps.length) (hf:(Ja r.ps i).st≠1):(Kw (r.putAt i k n).ps).Perm ((k,n)::Kw r.ps):=by
 unfold Row.putAt;rw[if_neg hf];exact J4p hi hf
theorem J5f (r:Row) (i:Nat) (k:ByteArray) (n:Int):(r.putAt i k n).ps.length=r.ps.length:=by
 unfold Row.putAt;split<;>simp
theorem Jcf.place {r:Option Nat×Bool} (h:Jcf hs ps k r) (hr:r.2=false) (hroom:(Kw ps).length<ps.length):
 ∃i,r.1=some i/\J31 hs ps k i:=by
 have h2:=(h.no hr).2;cases hr1:r.1 with
 |none=>
  rw[hr1] at h2;have:=Jki h2
  rw[J5b] at this;omega
 |some f=>
  rw[hr1] at h2;exact⟨f,rfl,h2.1,h2.2.1,h2.2.2⟩
theorem J4i {a b:KV} (h:a.Perm b) (hn:(b.map Prod.fst).Nodup):(a.map Prod.fst).Nodup:=(h.map Prod.fst).nodup_iff.2 hn
theorem Jn.keys_nodup (h:Jn hs T M c):((Kw T.old.ps++Kw T.fresh.ps).map Prod.fst).Nodup:=J4i h.perm h.nodup
theorem Jn.lens (h:Jn hs T M c):(Kw T.old.ps).length+(Kw T.fresh.ps).length=M.length:=by
 rw[<-List.length_append];exact h.perm.length_eq
theorem Jn.room (h:Jn hs T M c) (hm:T.moving=true):(Kw T.fresh.ps).length<T.fresh.ps.length:=by
 obtain⟨a1,a2,a3,a4,a5,a6⟩:=h.busy hm
 have:=h.lens
 omega
theorem Jn.move {r:Option Nat×Bool} (h:Jn hs T M c) (hm:T.moving=true) (h1:(Ja T.old.ps T.next).st=1)
 (hfd:Jcf hs T.fresh.ps (Ja T.old.ps T.next).key r) (hr:r.1=some i):
  r.2=false/\J31 hs T.fresh.ps (Ja T.old.ps T.next).key i/\
  Jn hs {T with old:=T.old.bury T.next,fresh:=T.fresh.putAt i (Ja T.old.ps T.next).key (Ja T.old.ps T.next).n} M c:=by
  obtain⟨a1,a2,a3,a4,a5,a6⟩:=h.busy hm
  have hg:=J1x (ps:=T.old.ps) (q:=J16) (by decide) a1 h1
  have hnd:=h.keys_nodup
  have hno:r.2=false:=by
   cases hr2:r.2 with
   |false=>rfl
   |true=>
    exfalso
    obtain⟨i',hi',hlt,hst,hk⟩:=hfd.yes hr2
    have m1:(Ja T.old.ps T.next).key∈(Kw T.fresh.ps).map Prod.fst:=
     List.mem_map.2 ⟨_,J2z.2 ⟨i',_,J3z hlt,hst,hk,rfl⟩,rfl⟩
    have m2:(Ja T.old.ps T.next).key∈(Kw T.old.ps).map Prod.fst:=
     List.mem_map.2 ⟨_,J2z.2 ⟨T.next,_,J3z a1,h1,rfl,rfl⟩,rfl⟩
    rw[List.map_append,List.nodup_append] at hnd;exact hnd.2.2 _ m2 _ m1 rfl
  obtain⟨i',hi',hp⟩:=hfd.place hno (h.room hm)
  obtain rfl:i'=i:=by rw[hr] at hi';exact(Option.some.inj hi').symm
  refine⟨hno,hp,h.old.bury a1 h1,h.fresh.putAt hp,by simpa[Row.bury] using h.len,by simpa[Row.bury] using h.lenB,?_,h.nodup,fun e=>by simp[hm] at e,fun _=>?_⟩
  ·refine List.Perm.trans ?_ h.perm
   refine List.Perm.trans (List.Perm.append_left _ (J4o hp.lt hp.free)) ?_;refine List.Perm.trans List.perm_middle ?_;exact(List.Perm.append_right _ hg.symm)
  ·simp only[Row.bury,List.length_set,J5f]
   refine⟨a1,a2,a3,a4,a5,fun j hj=>?_⟩
   rw[J29 a1];split
   ·decide
   ·exact a6 j hj
theorem Jn.pass (h:Jn hs T M c) (hm:T.moving=true) (h1:(Ja T.old.ps T.next).st≠1) (hlt:T.next+1<T.old.ps.length):
 Jn hs {T with next:=T.next+1} M (c+1):=by
 obtain⟨a1,a2,a3,a4,a5,a6⟩:=h.busy hm
 refine⟨h.old,h.fresh,h.len,h.lenB,h.perm,h.nodup,fun e=>by simp[hm] at e,fun _=>⟨hlt,a2,a3,a4,by simp only;omega,fun j hj=>?_⟩⟩
 simp only at hj
 rcases Nat.lt_or_ge j T.next with h'|h'
 ·exact a6 j h'
 ·obtain rfl:j=T.next:=by omega
  exact h1
theorem Jep (h:∀i,i<ps.length->(Ja ps i).st≠1):Kw ps=[]:=by
 rw[Kw,List.filterMap_eq_nil_iff];intro p hp
 obtain⟨i,hi⟩:=List.mem_iff_getElem?.1 hp
 have:=h i (List.getElem?_eq_some_iff.1 hi).1
 rw[J2w hi] at this;simp[J5y,this]
theorem Jn.done (h:Jn hs T M c) (hm:T.moving=true) (h1:(Ja T.old.ps T.next).st≠1) (hlt:T.next+1=T.old.ps.length):
 Jn hs ⟨T.fresh,J3f,false,0⟩ M c':=by
 obtain⟨a1,a2,a3,a4,a5,a6⟩:=h.busy hm
 refine⟨h.fresh,Jap hs,a2,a3,?_,h.nodup,fun _=>⟨rfl,rfl⟩,by simp⟩
 have:Kw T.old.ps=[]:=Jep fun i hi=>by
  rcases Nat.lt_or_ge i T.next with h'|h'
  ·exact a6 i h'
  ·obtain rfl:i=T.next:=by omega
   exact h1
 have hp:=h.perm;rw[this] at hp;simpa[J3f,Kw] using hp
theorem Jn.grown {room:Nat} (h:Jn hs T M c) (hm:T.moving=false) (h8:8<=room) (hB:room<=1099511627776) (h2:T.old.ps.length<=2*room+1)
 (h4:T.old.fl<room/4):Jn hs ⟨T.old,⟨List.replicate room Kq,0,0⟩,true,0⟩ M 4:=by
  obtain⟨e1,e2⟩:=h.idle hm
  have hl:=h.lens;have hfl:=h.old.fl;rw[J5b] at hfl;have hp:=h.perm;rw[e1] at hp hl;simp only[J3f,Kw,List.filterMap_nil,List.append_nil,List.length_nil] at hp hl;refine⟨h.old,Jdg hs room,h.len,h.lenB,by rw[J96];simpa[Kw] using hp,h.nodup,by simp,fun _=>⟨by have:=h.len;simp only;omega,by simpa using h8,by simpa using hB,by simpa using h2,?_,by simp⟩⟩
  simp only[List.length_replicate,Kw] at *;omega
theorem J88 (h:Jn hs T M c)
 (ho:∀(i:Nat) (p:Pl),T.old.ps[i]? =some p->p.st=1->p.key≠k) (hf:∀(i:Nat) (p:Pl),T.fresh.ps[i]? =some p->p.st=1->p.key≠k):k∉M.map Prod.fst:=by
  intro hk
  obtain⟨⟨k',n⟩,hm,rfl⟩:=List.mem_map.1 hk
  have:=h.perm.mem_iff.2 hm
  rw[List.mem_append] at this;rcases this with this|this
  ·obtain⟨i,p,hi,hs1,hk',_⟩:=J2z.1 this
   exact ho i p hi hs1 hk'
  ·obtain⟨i,p,hi,hs1,hk',_⟩:=J2z.1 this
   exact hf i p hi hs1 hk'
theorem Jn.putFresh {n:Int} (h:Jn hs T M 4) (hm:T.moving=true) (hk:k∉M.map Prod.fst)
 (hp:J31 hs T.fresh.ps k i):Jn hs {T with fresh:=T.fresh.putAt i k n} ((k,n)::M) 0:=by
  obtain⟨a1,a2,a3,a4,a5,a6⟩:=h.busy hm
  refine⟨h.old,h.fresh.putAt hp,h.len,h.lenB,?_,by simpa using ⟨by simpa using hk,h.nodup⟩,fun e=>by simp[hm] at e,fun _=>?_⟩
  ·refine List.Perm.trans (List.Perm.append_left _ (J4o hp.lt hp.free)) ?_
   exact List.Perm.trans List.perm_middle (List.Perm.cons _ h.perm)
  ·simp only[J5f,List.length_cons]
   exact⟨a1,a2,a3,a4,by omega,a6⟩
theorem Jn.putOld {n:Int} (h:Jn hs T M c) (hm:T.moving=false) (hk:k∉M.map Prod.fst)
 (hp:J31 hs T.old.ps k i):Jn hs {T with old:=T.old.putAt i k n} ((k,n)::M) c':=by
  refine⟨h.old.putAt hp,h.fresh,by simpa[J5f] using h.len,by simpa[J5f] using h.lenB,?_,by simpa using ⟨by simpa using hk,h.nodup⟩,h.idle,fun e=>by simp[hm] at e⟩
  refine List.Perm.trans (List.Perm.append_right _ (J4o hp.lt hp.free)) ?_;exact List.Perm.cons _ h.perm
theorem Jn.roomOld (h:Jn hs T M c) (h2:2*(T.old.fl+T.old.gr)<T.old.ps.length):(Kw T.old.ps).length<T.old.ps.length:=by
 have hfl:=h.old.fl;have hgr:=h.old.gr;rw[J5b] at hfl;omega
def look (M:KV) (k:ByteArray):Option Int:=(M.find? (fun p=>decide (p.1=k))).map Prod.snd
def Jz (M:KV) (k:ByteArray):KV:=M.filter (fun p=>decide (p.1≠k))
theorem J7q {n:Int} (hn:(M.map Prod.fst).Nodup) (h:(k,n)∈M):look M k=some n:=by
 induction M with
 |nil=>cases h
 |cons p M ih=>
  simp only[List.map_cons,List.nodup_cons] at hn;unfold look;rw[List.find?_cons];by_cases hp:p.1=k
  ·rw[show decide (p.1=k)=true from by simp[hp]]
   rcases List.mem_cons.1 h with rfl|hm
   ·rfl
   ·exact absurd (List.mem_map.2 ⟨_,hm,hp.symm⟩) hn.1
  ·rw[show decide (p.1=k)=false from by simp[hp]]
   rcases List.mem_cons.1 h with rfl|hm
   ·exact absurd rfl hp
   ·exact ih hn.2 hm
theorem J5g:look M k=none ↔ k∉M.map Prod.fst:=by
 simp only[look,Option.map_eq_none_iff,List.find?_eq_none,List.mem_map,not_exists,not_and];constructor
 ·intro h p hp e;exact h p hp (by simp[e])
 ·intro h p hp e;exact h p hp (by simpa using e)
theorem J7r {n:Int} (h:look M k=some n):(k,n)∈M:=by
 simp only[look,Option.map_eq_some_iff] at h;obtain⟨⟨k',n'⟩,hf,rfl⟩:=h
 have h1:=List.find?_some hf;have h2:=List.mem_of_find?_eq_some hf;simp at h1
 subst h1;exact h2
theorem J2x {r:KV} {n:Int} (hn:(M.map Prod.fst).Nodup) (h:M.Perm ((k,n)::r)):(Jz M k).Perm r:=by
 have h1:=h.filter (fun p=>decide (p.1≠k))
 simp only[List.filter_cons,ne_eq,not_true,decide_false,Bool.false_eq_true,if_false] at h1;refine List.Perm.trans h1 ?_;rw[List.filter_eq_self.2];intro p hp
 have hn2:=J4i h.symm hn;simp only[List.map_cons,List.nodup_cons] at hn2;have:p.1≠k:=fun e=>hn2.1 (List.mem_map.2 ⟨p,hp,e⟩)
 simpa using this
theorem Jn.memOld (h:Jn hs T M c) (hi:i<T.old.ps.length) (h1:(Ja T.old.ps i).st=1):
 look M (Ja T.old.ps i).key=some (Ja T.old.ps i).n:=
 J7q h.nodup (h.perm.mem_iff.1 (List.mem_append.2 (.inl (J2z.2 ⟨i,_,J3z hi,h1,rfl,rfl⟩))))
theorem Jn.memFresh (h:Jn hs T M c) (hi:i<T.fresh.ps.length) (h1:(Ja T.fresh.ps i).st=1):
 look M (Ja T.fresh.ps i).key=some (Ja T.fresh.ps i).n:=
 J7q h.nodup (h.perm.mem_iff.1 (List.mem_append.2 (.inr (J2z.2 ⟨i,_,J3z hi,h1,rfl,rfl⟩))))
theorem J2v (k:ByteArray) (h:(M.map Prod.fst).Nodup):((Jz M k).map Prod.fst).Nodup:=(List.filter_sublist.map Prod.fst).nodup h
theorem J80 (M:KV) (k:ByteArray):(Jz M k).length<=M.length:=List.length_filter_le _ _
theorem Jn.buryOld (h:Jn hs T M c) (hi:i<T.old.ps.length) (h1:(Ja T.old.ps i).st=1):
 Jn hs {T with old:=T.old.bury i} (Jz M (Ja T.old.ps i).key) c:=by
 have hg:=J1x (ps:=T.old.ps) (q:=J16) (by decide) hi h1
 have hp:M.Perm (((Ja T.old.ps i).key,(Ja T.old.ps i).n)::(Kw (T.old.bury i).ps++Kw T.fresh.ps)):=h.perm.symm.trans (hg.append_right _);have hl:=J80 M (Ja T.old.ps i).key;refine⟨h.old.bury hi h1,h.fresh,by simpa[Row.bury] using h.len,by simpa[Row.bury] using h.lenB,(J2x h.nodup hp).symm,J2v _ h.nodup,h.idle,fun m=>?_⟩
 obtain⟨a1,a2,a3,a4,a5,a6⟩:=h.busy m
 simp only[Row.bury,List.length_set];refine⟨a1,a2,a3,a4,by omega,fun j hj=>?_⟩
 rw[J29 hi];split
 ·decide
 ·exact a6 j hj
theorem Jn.buryFresh (h:Jn hs T M c) (hm:T.moving=true) (hi:i<T.fresh.ps.length) (h1:(Ja T.fresh.ps i).st=1):
 Jn hs {T with fresh:=T.fresh.bury i} (Jz M (Ja T.fresh.ps i).key) c:=by
 have hg:=J1x (ps:=T.fresh.ps) (q:=J16) (by decide) hi h1
 have hp:M.Perm (((Ja T.fresh.ps i).key,(Ja T.fresh.ps i).n)::(Kw T.old.ps++Kw (T.fresh.bury i).ps)):=h.perm.symm.trans ((hg.append_left _).trans List.perm_middle);have hl:=J80 M (Ja T.fresh.ps i).key;refine⟨h.old,h.fresh.bury hi h1,h.len,h.lenB,(J2x h.nodup hp).symm,J2v _ h.nodup,fun e=>by simp[hm] at e,fun m=>?_⟩
 obtain⟨a1,a2,a3,a4,a5,a6⟩:=h.busy m
 simp only[Row.bury,List.length_set];exact⟨a1,a2,a3,a4,by omega,a6⟩
theorem Jaw {r:KV} {n n':Int} (hn:(M.map Prod.fst).Nodup) (h:M.Perm ((k,n)::r)):((k,n')::r).Perm ((k,n')::Jz M k):=
 List.Perm.cons _ (J2x hn h).symm
theorem J5t (M:KV) (k:ByteArray):k∉(Jz M k).map Prod.fst:=by
 intro h
 obtain⟨p,hp,he⟩:=List.mem_map.1 h
 have:=(List.mem_filter.1 hp).2
 simp[he] at this
theorem J57 {n:Int} (hn:(M.map Prod.fst).Nodup) (h:look M k=some n):(Jz M k).length+1=M.length:=by
 have hm:=J7r h
 obtain⟨r,hr⟩:∃r,M.Perm ((k,n)::r):=by
  obtain⟨s,t,rfl⟩:=List.append_of_mem hm
  exact⟨s++t,List.perm_middle⟩
 rw[(J2x hn hr).length_eq,hr.length_eq];rfl
theorem Jn.setOld {n:Int} (h:Jn hs T M c) (hi:i<T.old.ps.length) (h1:(Ja T.old.ps i).st=1):
 Jn hs {T with old:=T.old.setN i n} (((Ja T.old.ps i).key,n)::Jz M (Ja T.old.ps i).key) c:=by
 obtain⟨r,hr1,hr2⟩:=J4e (n:=n) hi h1
 have hp:M.Perm (((Ja T.old.ps i).key,(Ja T.old.ps i).n)::(r++Kw T.fresh.ps)):=h.perm.symm.trans (hr1.append_right _);have hl:=J57 h.nodup (h.memOld hi h1);refine⟨h.old.setN hi,h.fresh,by simpa[Row.setN] using h.len,by simpa[Row.setN] using h.lenB,?_,by simpa using ⟨by simpa using J5t M _,J2v _ h.nodup⟩,h.idle,fun m=>?_⟩
 ·exact(hr2.append_right _).trans (Jaw h.nodup hp)
 ·obtain⟨a1,a2,a3,a4,a5,a6⟩:=h.busy m
  simp only[Row.setN,List.length_set,List.length_cons];refine⟨a1,a2,a3,a4,by omega,fun j hj=>?_⟩
  rw[J29 hi];split
  ·rename_i e;rw[e] at hj;exact absurd h1 (a6 i hj)
  ·exact a6 j hj
theorem Jn.setFresh {n:Int} (h:Jn hs T M c) (hm:T.moving=true) (hi:i<T.fresh.ps.length) (h1:(Ja T.fresh.ps i).st=1):
 Jn hs {T with fresh:=T.fresh.setN i n} (((Ja T.fresh.ps i).key,n)::Jz M (Ja T.fresh.ps i).key) c:=by
 obtain⟨r,hr1,hr2⟩:=J4e (n:=n) hi h1
 have hp:M.Perm (((Ja T.fresh.ps i).key,(Ja T.fresh.ps i).n)::(Kw T.old.ps++r)):=h.perm.symm.trans ((hr1.append_left _).trans List.perm_middle);have hl:=J57 h.nodup (h.memFresh hi h1);refine⟨h.old,h.fresh.setN hi,h.len,h.lenB,?_,by simpa using ⟨by simpa using J5t M _,J2v _ h.nodup⟩,fun e=>by simp[hm] at e,fun m=>?_⟩
 ·exact((hr2.append_left _).trans List.perm_middle).trans (Jaw h.nodup hp)
 ·obtain⟨a1,a2,a3,a4,a5,a6⟩:=h.busy m
  simp only[Row.setN,List.length_set,List.length_cons];exact⟨a1,a2,a3,a4,by omega,a6⟩
end Go.Proofs.YtefjbegnlolgbaaGreatDoor
namespace Go.Proofs.YtefjbegnlolgbaaGreatDoor
open Go Go.RowKit
variable {w:World}{pb i:Nat}{ps:List Pl}
def J2a (p:Pl):List Value:=[.int .i64 p.st,.string p.key,.int .i64 p.n]
def J0n (ps:List Pl):List Value:=ps.flatMap J2a
theorem J7w (ps:List Pl):(J0n ps).length=3*ps.length:=by
 induction ps with
 |nil=>rfl
 |cons p ps ih=>
  have e:(J0n (p::ps)).length=3+(J0n ps).length:=by simp only[J0n,List.flatMap_cons,List.length_append];rfl
  rw[e,ih,List.length_cons];omega
theorem J11 (ps:List Pl) (i j:Nat) (hj:j<3):(J0n ps)[i*3+j]? =if i<ps.length then(J2a (Ja ps i))[j]? else none:=by
 induction ps generalizing i with
 |nil=>simp[J0n]
 |cons p ps ih=>
  cases i with
  |zero=>
   simp only[J0n,List.flatMap_cons,Nat.zero_mul,Nat.zero_add,List.length_cons,Nat.zero_lt_succ,if_true];rw[List.getElem?_append_left (by simp[J2a];omega)]
   rfl
  |succ i=>
   simp only[J0n,List.flatMap_cons] at ih⊢;rw[List.getElem?_append_right (by simp[J2a];omega)]
   have e:(i+1)*3+j - (J2a p).length=i*3+j:=by simp[J2a];omega
   rw[e,ih i];simp only[List.length_cons,Nat.add_lt_add_iff_right];rfl
def Kv (w:World) (pb:Nat) (ps:List Pl):Prop:=w.heap[pb]? =some (.cells (J0n ps).toArray 372 (0,0))
theorem Kv.st (h:Kv w pb ps) (hi:i<ps.length):w.cell? ⟨pb,i*3,none⟩=some (.int .i64 (Ja ps i).st):=by
 have:=J11 ps i 0 (by omega)
 rw[if_pos hi] at this;rw[J0 h];simpa[J2a] using this
theorem Kv.key (h:Kv w pb ps) (hi:i<ps.length):w.cell? ⟨pb,i*3+1,none⟩=some (.string (Ja ps i).key):=by
 have:=J11 ps i 1 (by omega)
 rw[if_pos hi] at this;rw[J0 h];simpa[J2a] using this
theorem Kv.n (h:Kv w pb ps) (hi:i<ps.length):w.cell? ⟨pb,i*3+2,none⟩=some (.int .i64 (Ja ps i).n):=by
 have:=J11 ps i 2 (by omega)
 rw[if_pos hi] at this;rw[J0 h];simpa[J2a] using this
theorem Jd4 (ps:List Pl) (k:ByteArray) (L f i:Nat) (free:Option Nat):J3j ps k L (f+1) i free=
 if(Ja ps i).st=1/\(Ja ps i).key=k then(some i,true)
 else if(Ja ps i).st=0 then(if free=none then some i else free,false)
 else J3j ps k L f ((i+1)%L) (if(Ja ps i).st≠1/\free=none then some i else free):=rfl
def J1d:Option Nat->Int
 |none=> -1
 |some i=>i
theorem J7l {f:Option Nat} (h:J1d f<0):f=none:=by
 cases f with
 |none=>rfl
 |some i=>simp only[J1d] at h;omega
theorem J7m {f:Option Nat} (h:0<=J1d f):f≠none:=by
 rintro rfl;simp[J1d] at h
theorem J94 (b o pb:Nat) (ps:List Pl) (key:ByteArray) (w:World) (hk:key.size<=maxLen) (hL:0<ps.length) (hB:ps.length<=1099511627776)
 (hr:w.cell? ⟨b,o,none⟩=some (.slice (some ⟨pb,0,none⟩) ps.length ps.length)) (hp:Kv w pb ps):
  Calls Tryz.prog 318 #[.pointer (some ⟨b,o,none⟩),.string key] w fun e w'=>
   e= .returned (.tuple #[.int .i64 (J1d (J08 Jd ps key).1),.bool (J08 Jd ps key).2])/\∃n,w'=w.drewN n:=by
  have hp':=hid hp;clear hp
  have hw7:wrap64 ((Jd key:Nat)%(ps.length:Int))=((K3 Jd ps.length key 0:Nat):Int):=by
   have h1:=Nat.mod_lt (Jd key) hL;unfold wrap64 K3;rw[<-Int.natCast_emod,Nat.add_zero];omega
  have h0:Hid (J3j ps key ps.length (ps.length - 0) (K3 Jd ps.length key 0) none=J08 Jd ps key):=rfl;go_enter Tryz.func318,Tryz.ntmps318;go_wp2_with fail;go_quiet ((go_at_call 343;exact Calls.quiet_of_same (J7a (Jib key _ hk))));go_wp2_with fail
  go_loop [6,7,24] (fun fr a c=>∃(j:Nat) (free:Option Nat),j<=ps.length/\c= .int .i64 j/\a= .int .i64 (K3 Jd ps.length key j:Nat)/\fr= .int .i64 (J1d free)/\
   Hid (J3j ps key ps.length (ps.length - j) (K3 Jd ps.length key j) free=J08 Jd ps key)) (fun _ _ c=>ps.length - (intOf c).toNat)
  case atStart=>exact⟨0,none,Nat.zero_le _,rfl,by rw[hw7],rfl,h0⟩
  case round=>
   obtain⟨j,free,hj,rfl,rfl,rfl,hgo⟩:=hrel
   clear hw7;by_cases hlt:j<ps.length
   ·have hi:=J5j Jd hL key j
    have c0:=hp'.out.st hi;have c1:=hp'.out.key hi;have hst:=hgo.out;rw[show ps.length - j=(ps.length - (j+1))+1 by omega,Jd4,J4x] at hst
    replace hst:=hid hst;clear hgo;have hmod:(((K3 Jd ps.length key j:Nat):Int)+1)%(ps.length:Int)=((K3 Jd ps.length key (j+1):Nat):Int):=by rw[<-J4x];rfl
    replace hmod:=hid hmod;generalize Ja ps (K3 Jd ps.length key j)=p at *;generalize K3 Jd ps.length key j=i at *;go_wp2_with fail
    ·rename_i h1 h2 _
     go_ret2;rw[<-hst.out,if_pos ⟨h1,Jfs h2⟩];exact⟨rfl,_,rfl⟩
    ·rename_i h1 h2
     go_round
     case rel=>
      refine⟨j+1,free,by omega,by go_num,by rw[hmod.out],rfl,?_⟩
      have:=hst.out
      rw[if_neg (fun h=>Jml h2 h.2),if_neg (by rw[h1];decide),if_neg (fun h=>h.1 h1)] at this
      exact this
     case measure=>simp[intOf];omega
    ·have h1:¬p.st=1:=by assumption
     have h2:(p.st !=1)=true/\J1d free<0:=by assumption
     have h3:(p.st==0)=true:=by assumption
     go_ret2;have hf:=J7l h2.2;subst hf;rw[<-hst.out,if_neg (fun h=>h1 h.1),if_pos (by simpa using h3)]
     exact⟨rfl,_,rfl⟩
    ·rename_i h1 h2 h3
     have hf:=J7l h2.2;subst hf;go_round
     case rel=>
      refine⟨j+1,some i,by omega,by go_num,by rw[hmod.out],rfl,?_⟩
      have:=hst.out
      rw[if_neg (fun h=>h1 h.1),if_neg (by simpa using h3),if_pos ⟨h1,rfl⟩] at this
      exact this
     case measure=>simp[intOf];omega
    ·have h1:¬p.st=1:=by assumption
     have h2:(p.st !=1)=false\/0<=J1d free:=by assumption
     have h3:(p.st==0)=true:=by assumption
     go_ret2;have hf:=J7m (h2.resolve_left (by simpa using h1))
     rw[<-hst.out,if_neg (fun h=>h1 h.1),if_pos (by simpa using h3)]
     simp only[hf,if_false];exact⟨rfl,_,rfl⟩
    ·rename_i h1 h2 h3
     have hf:=J7m (h2.resolve_left (by simpa using h1))
     go_round
     case rel=>
      refine⟨j+1,free,by omega,by go_num,by rw[hmod.out],rfl,?_⟩
      have:=hst.out
      rw[if_neg (fun h=>h1 h.1),if_neg (by simpa using h3),if_neg (fun h=>hf h.2)] at this
      exact this
     case measure=>simp[intOf];omega
   ·obtain rfl:j=ps.length:=by omega
    have hst:=hgo.out;rw[Nat.sub_self] at hst;replace hst:=hid hst;clear hgo;go_wp2_with fail;go_ret2;rw[<-hst.out];exact⟨rfl,_,rfl⟩
end Go.Proofs.YtefjbegnlolgbaaGreatDoor
