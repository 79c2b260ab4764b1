/-
The plain law of one row of places (open addressing, linear probing, graves): what find answers, and what put and bury make of what the row holds. No program in sight.
-/
import Derived.BigQuiet
import Derived.Deep.QuietTactic
import Derived.WalkKit
import Derived.Test.YtlbjfafbahphgaaGreatDoorQ08
set_option linter.unusedVariables false
set_option linter.unusedSimpArgs false
set_option maxRecDepth 100000
set_option maxHeartbeats 8000000
namespace Go.Proofs.YtlbjfafbahphgaaGreatDoor
variable {i c c':Nat}{k:ByteArray}{hs:ByteArray → Nat}
structure Pl where
 st:Int
 key:ByteArray
 n:Int
variable {ps:List Pl}{q:Pl}
def emptyPl:Pl:=⟨0,ByteArray.empty,0⟩
def gravePl:Pl:=⟨2,ByteArray.empty,0⟩
abbrev KV:=List (ByteArray×Int)
variable {M:KV}
def plOf (p:Pl):Option (ByteArray×Int):=if p.st=1 then some (p.key,p.n) else none
def fulls (ps:List Pl):KV:=ps.filterMap plOf
def cntSt (ps:List Pl) (s:Int):Nat:=ps.countP (fun p=>p.st==s)
def plAt (ps:List Pl) (i:Nat):Pl:=ps.getD i emptyPl
def findGo (ps:List Pl) (k:ByteArray) (L:Nat):Nat->Nat->Option Nat->Option Nat×Bool
 |0,_,free=>(free,false)
 |f+1,i,free=>
  if(plAt ps i).st=1/\(plAt ps i).key=k then(some i,true)
  else if(plAt ps i).st=0 then(if free=none then some i else free,false)
  else findGo ps k L f ((i+1)%L) (if(plAt ps i).st≠1/\free=none then some i else free)
def findRow (hs:ByteArray->Nat) (ps:List Pl) (k:ByteArray):Option Nat×Bool:=findGo ps k ps.length ps.length (hs k%ps.length) none
def pathAt (hs:ByteArray->Nat) (L:Nat) (k:ByteArray) (d:Nat):Nat:=(hs k+d)%L
theorem pathAt_succ (hs:ByteArray->Nat) (L:Nat) (k:ByteArray) (d:Nat):(pathAt hs L k d+1)%L=pathAt hs L k (d+1):=by
 unfold pathAt
 rw[Nat.mod_add_mod];congr 1
structure RowOk (hs:ByteArray->Nat) (ps:List Pl):Prop where
 path:∀(i:Nat) (p:Pl),ps[i]? =some p->p.st=1->∃d,d<ps.length/\i=pathAt hs ps.length p.key d/\∀j,j<d->(plAt ps (pathAt hs ps.length p.key j)).st≠0
theorem plAt_of {p:Pl} (h:ps[i]? =some p):plAt ps i=p:=by simp[plAt,List.getD,h]
theorem at_plAt (h:i<ps.length):ps[i]? =some (plAt ps i):=by simp[plAt,List.getD,List.getElem?_eq_getElem h]
structure Walked (hs:ByteArray->Nat) (ps:List Pl) (k:ByteArray) (j:Nat) (free:Option Nat):Prop where
 none:∀d,d<j->(plAt ps (pathAt hs ps.length k d)).st≠0/\¬((plAt ps (pathAt hs ps.length k d)).st=1/\(plAt ps (pathAt hs ps.length k d)).key=k)
 free:match free with
  | .none=>∀d,d<j->(plAt ps (pathAt hs ps.length k d)).st=1
  |some f=>∃d,d<j/\f=pathAt hs ps.length k d/\(plAt ps f).st≠1/\∀e,e<d->(plAt ps (pathAt hs ps.length k e)).st=1
theorem mod_path_surj {a L:Nat} (hi:i<L):∃d,d<L/\i=(a+d)%L:=by
 have hL:0<L:=by omega
 have ha:=Nat.mod_lt a hL
 refine⟨(i+L - a%L)%L,Nat.mod_lt _ hL,?_⟩
 rw[Nat.add_mod,Nat.mod_mod]
 rcases Nat.lt_or_ge i (a%L) with h|h
 ·rw[Nat.mod_eq_of_lt (show i+L - a%L<L by omega),show a%L+(i+L - a%L)=i+L by omega,Nat.add_mod_right,Nat.mod_eq_of_lt hi]
 ·rw[show i+L - a%L=(i - a%L)+L by omega,Nat.add_mod_right,Nat.mod_eq_of_lt (show i - a%L<L by omega),show a%L+(i - a%L)=i by omega,Nat.mod_eq_of_lt hi]
structure Found (hs:ByteArray->Nat) (ps:List Pl) (k:ByteArray) (r:Option Nat×Bool):Prop where
 yes:r.2=true->∃i,r.1=some i/\i<ps.length/\(plAt ps i).st=1/\(plAt ps i).key=k
 no:r.2=false->(∀(i:Nat) (p:Pl),ps[i]? =some p->p.st=1->p.key≠k)/\
  (match r.1 with
   |none=>∀i,i<ps.length->(plAt ps i).st=1
   |some f=>f<ps.length/\(plAt ps f).st≠1/\∃d,d<ps.length/\f=pathAt hs ps.length k d/\∀e,e<d->(plAt ps (pathAt hs ps.length k e)).st≠0)
theorem pathAt_lt (hs:ByteArray->Nat) {L:Nat} (hL:0<L) (k:ByteArray) (d:Nat):pathAt hs L k d<L:=Nat.mod_lt _ hL
theorem findGo_ok (hs:ByteArray->Nat) (ps:List Pl) (k:ByteArray) (hok:RowOk hs ps) (hL:0<ps.length):∀(f j:Nat) (free:Option Nat),f+j=ps.length->Walked hs ps k j free->
 Found hs ps k (findGo ps k ps.length f (pathAt hs ps.length k j) free):=by
 intro f
 induction f with
 |zero=>
  intro j free hj hw
  have hj':j=ps.length:=by omega
  subst hj'
  have absent:∀(i:Nat) (p:Pl),ps[i]? =some p->p.st=1->p.key≠k:=by
   intro i p hp hs1 hk
   have hi:i<ps.length:=(List.getElem?_eq_some_iff.1 hp).1
   obtain⟨d,hd,he⟩:=mod_path_surj (a:=hs k) hi
   have hd2:=(hw.none d hd).2
   rw[show pathAt hs ps.length k d=i from he.symm,plAt_of hp] at hd2
   exact hd2 ⟨hs1,hk⟩
  refine⟨by simp[findGo],fun _=>⟨absent,?_⟩⟩
  have hfree:=hw.free
  cases free with
  |none=>
   simp only[findGo]
   intro i hi
   obtain⟨d,hd,he⟩:=mod_path_surj (a:=hs k) hi
   have:=hfree d hd
   rwa[show pathAt hs ps.length k d=i from he.symm] at this
  |some fr=>
   obtain⟨d,hd,he,hst,hall⟩:=hfree
   exact⟨by rw[he];exact pathAt_lt hs hL k d,hst,d,hd,he,fun e hed=>by rw[hall e hed];decide⟩
 |succ f ih=>
  intro j free hj hw
  have hjL:j<ps.length:=by omega
  have hatL:=pathAt_lt hs hL k j
  simp only[findGo]
  by_cases h1:(plAt ps (pathAt hs ps.length k j)).st=1/\(plAt ps (pathAt hs ps.length k j)).key=k
  ·rw[if_pos h1]
   exact⟨fun _=>⟨_,rfl,hatL,h1.1,h1.2⟩,by simp⟩
  ·rw[if_neg h1]
   by_cases h0:(plAt ps (pathAt hs ps.length k j)).st=0
   ·rw[if_pos h0]
    refine⟨by simp,fun _=>⟨?_,?_⟩⟩
    ·intro i p hp hs1 hk
     obtain⟨d,hd,he,hall⟩:=hok.path i p hp hs1
     rw[hk] at he hall
     rcases Nat.lt_trichotomy d j with hlt|heq|hgt
     ·have:=(hw.none d hlt).2
      rw[<-he,plAt_of hp] at this
      exact this ⟨hs1,hk⟩
     ·subst heq
      rw[<-he,plAt_of hp,hs1] at h0
      exact absurd h0 (by decide)
     ·exact hall j hgt h0
    ·have hfree:=hw.free
     cases free with
     |none=>exact⟨hatL,by rw[h0];decide,j,hjL,rfl,fun e hed=>(hw.none e hed).1⟩
     |some fr=>
      obtain⟨d,hd,he,hst,hall⟩:=hfree
      exact⟨by rw[he];exact pathAt_lt hs hL k d,hst,d,by omega,he,fun e hed=>by rw[hall e hed];decide⟩
   ·rw[if_neg h0,pathAt_succ]
    refine ih (j+1) _ (by omega) ⟨fun d hd=>?_,?_⟩
    ·rcases Nat.lt_or_ge d j with hlt|hge
     ·exact hw.none d hlt
     ·obtain rfl:d=j:=by omega
      exact⟨h0,h1⟩
    ·have hfree:=hw.free
     cases free with
     |none=>
      by_cases hs1:(plAt ps (pathAt hs ps.length k j)).st=1
      ·simp only[hs1,ne_eq,not_true,false_and,if_false]
       intro d hd
       rcases Nat.lt_or_ge d j with hlt|hge
       ·exact hfree d hlt
       ·obtain rfl:d=j:=by omega
        exact hs1
      ·simp only[hs1,ne_eq,not_false_iff,true_and,eq_self,if_true]
       exact⟨j,by omega,rfl,fun e hed=>hfree e hed⟩
     |some fr=>
      obtain⟨d,hd,he,hst,hall⟩:=hfree
      simp only[reduceCtorEq,and_false,if_false]
      exact⟨d,by omega,he,hst,hall⟩
theorem findRow_ok (hs:ByteArray->Nat) (ps:List Pl) (k:ByteArray) (hok:RowOk hs ps) (hL:0<ps.length):Found hs ps k (findRow hs ps k):=by
 have:=findGo_ok hs ps k hok hL ps.length 0 none (by omega) ⟨by intro d hd;omega,by intro d hd;omega⟩
 simpa[pathAt,findRow] using this
theorem part_at (hi:i<ps.length):ps=ps.take i++plAt ps i::ps.drop (i+1):=by
 rw[show plAt ps i=ps[i] by simp[plAt,List.getD,List.getElem?_eq_getElem hi],<-List.drop_eq_getElem_cons hi,List.take_append_drop]
theorem fulls_set_full {n:Int} (hi:i<ps.length) (h:(plAt ps i).st≠1):(fulls (ps.set i ⟨1,k,n⟩)).Perm ((k,n)::fulls ps):=by
 have e:=part_at hi
 have e2:ps.set i ⟨1,k,n⟩=ps.take i++⟨1,k,n⟩::ps.drop (i+1):=by
  rw[List.set_eq_take_append_cons_drop,if_pos hi]
 rw[e2]
 conv=>rhs;rw[e]
 simp only[fulls,List.filterMap_append,List.filterMap_cons]
 rw[show plOf ⟨1,k,n⟩=some (k,n) by simp[plOf],show plOf (plAt ps i)=none by simp[plOf,h]]
 exact List.perm_middle
theorem fulls_set_grave (hq:q.st≠1) (hi:i<ps.length) (h:(plAt ps i).st=1):(fulls ps).Perm (((plAt ps i).key,(plAt ps i).n)::fulls (ps.set i q)):=by
 have e:=part_at hi
 have e2:ps.set i q=ps.take i++q::ps.drop (i+1):=by
  rw[List.set_eq_take_append_cons_drop,if_pos hi]
 rw[e2]
 conv=>lhs;rw[e]
 simp only[fulls,List.filterMap_append,List.filterMap_cons]
 rw[show plOf q=none by simp[plOf,hq],show plOf (plAt ps i)=some ((plAt ps i).key,(plAt ps i).n) by simp[plOf,h]]
 exact List.perm_middle
theorem fulls_set_again {n:Int} (hi:i<ps.length) (h:(plAt ps i).st=1):
 ∃r,(fulls ps).Perm (((plAt ps i).key,(plAt ps i).n)::r)/\(fulls (ps.set i ⟨(plAt ps i).st,(plAt ps i).key,n⟩)).Perm (((plAt ps i).key,n)::r):=by
 refine⟨fulls (ps.set i gravePl),fulls_set_grave (by decide) hi h,?_⟩
 have hl:i<(ps.set i gravePl).length:=by simpa using hi
 have:=fulls_set_full (ps:=ps.set i gravePl) (i:=i) (k:=(plAt ps i).key) (n:=n) hl (by simp[plAt,List.getD,List.getElem?_set,hi,gravePl])
 rw[List.set_set] at this
 rw[h]
 exact this
theorem mem_fulls {n:Int}:(k,n)∈fulls ps ↔ ∃(i:Nat) (p:Pl),ps[i]? =some p/\p.st=1/\p.key=k/\p.n=n:=by
 simp only[fulls,List.mem_filterMap]
 constructor
 ·rintro⟨p,hp,h⟩
  obtain⟨i,hi⟩:=List.mem_iff_getElem?.1 hp
  by_cases hs:p.st=1
  ·simp[plOf,hs] at h
   exact⟨i,p,hi,hs,h.1,h.2⟩
  ·simp[plOf,hs] at h
 ·rintro⟨i,p,hp,hs,rfl,rfl⟩
  exact⟨p,List.mem_iff_getElem?.2 ⟨i,hp⟩,by simp[plOf,hs]⟩
theorem plAt_set {j:Nat} (hi:i<ps.length):plAt (ps.set i q) j=if j=i then q else plAt ps j:=by
 simp only[plAt,List.getD,List.getElem?_set]
 by_cases h:i=j
 ·subst h;simp[hi]
 ·simp[h,Ne.symm h]
theorem RowOk.set_grave (h:RowOk hs ps) (hi:i<ps.length) (hq0:q.st≠0) (hq1:q.st≠1):RowOk hs (ps.set i q):=by
 constructor
 intro j p hp hs1
 rw[List.getElem?_set] at hp
 by_cases hij:i=j
 ·subst hij
  simp[hi] at hp
  subst hp
  exact absurd hs1 hq1
 ·simp[hij] at hp
  obtain⟨d,hd,he,hall⟩:=h.path j p hp hs1
  refine⟨d,by simpa using hd,by simpa using he,fun e hed=>?_⟩
  rw[List.length_set,plAt_set hi]
  split
  ·exact hq0
  ·exact hall e hed
theorem RowOk.set_full {n:Int} (h:RowOk hs ps) (hi:i<ps.length)
 (hp:∃d,d<ps.length/\i=pathAt hs ps.length k d/\∀e,e<d->(plAt ps (pathAt hs ps.length k e)).st≠0):RowOk hs (ps.set i ⟨1,k,n⟩):=by
  constructor
  intro j p hpj hs1
  rw[List.getElem?_set] at hpj
  by_cases hij:i=j
  ·subst hij
   simp[hi] at hpj
   subst hpj
   obtain⟨d,hd,he,hall⟩:=hp
   refine⟨d,by simpa using hd,by simpa using he,fun e hed=>?_⟩
   rw[List.length_set,plAt_set hi]
   split
   ·show(1:Int)≠0
    decide
   ·exact hall e hed
  ·simp[hij] at hpj
   obtain⟨d,hd,he,hall⟩:=h.path j p hpj hs1
   refine⟨d,by simpa using hd,by simpa using he,fun e hed=>?_⟩
   rw[List.length_set,plAt_set hi]
   split
   ·show(1:Int)≠0
    decide
   ·exact hall e hed
theorem RowOk.set_n {n:Int} (h:RowOk hs ps) (hi:i<ps.length):RowOk hs (ps.set i ⟨(plAt ps i).st,(plAt ps i).key,n⟩):=by
 have hst:∀j,(plAt (ps.set i ⟨(plAt ps i).st,(plAt ps i).key,n⟩) j).st=(plAt ps j).st:=by
  intro j
  rw[plAt_set hi]
  split
  ·rename_i e;rw[e]
  ·rfl
 constructor
 intro j p hp hs1
 obtain⟨p',hp',h1,h2⟩:∃p',ps[j]? =some p'/\p'.st=p.st/\p'.key=p.key:=by
  rw[List.getElem?_set] at hp
  by_cases hij:i=j
  ·subst hij
   simp[hi] at hp
   subst hp
   exact⟨plAt ps i,at_plAt hi,rfl,rfl⟩
  ·simp[hij] at hp
   exact⟨p,hp,rfl,rfl⟩
 obtain⟨d,hd,he,hall⟩:=h.path j p' hp' (h1.trans hs1)
 rw[h2] at he hall
 refine⟨d,by simpa using hd,by simpa using he,fun e hed=>?_⟩
 rw[List.length_set,hst]
 exact hall e hed
theorem cnt_set (s:Int) (hi:i<ps.length):cntSt (ps.set i q) s+(if(plAt ps i).st=s then 1 else 0)=cntSt ps s+(if q.st=s then 1 else 0):=by
 have e:=part_at hi
 have e2:ps.set i q=ps.take i++q::ps.drop (i+1):=by
  rw[List.set_eq_take_append_cons_drop,if_pos hi]
 have c1:cntSt ps s=cntSt (ps.take i) s+((if(plAt ps i).st=s then 1 else 0)+cntSt (ps.drop (i+1)) s):=by
  conv=>lhs;rw[e]
  simp only[cntSt,List.countP_append,List.countP_cons,beq_iff_eq]
  omega
 rw[e2,c1]
 simp only[cntSt,List.countP_append,List.countP_cons,beq_iff_eq]
 omega
theorem cnt_fulls (ps:List Pl):cntSt ps 1=(fulls ps).length:=by
 induction ps with
 |nil=>rfl
 |cons p ps ih=>
  simp only[cntSt,fulls,List.countP_cons,List.filterMap_cons] at ih⊢
  by_cases h:p.st=1<;>simp[plOf,h]<;>omega
theorem cnt_le (ps:List Pl) (s:Int):cntSt ps s<=ps.length:=List.countP_le_length
theorem cnt_all (h:∀i,i<ps.length->(plAt ps i).st=1):cntSt ps 1=ps.length:=by
 rw[cntSt,List.countP_eq_length]
 intro p hp
 obtain⟨i,hi⟩:=List.mem_iff_getElem?.1 hp
 have:=h i (List.getElem?_eq_some_iff.1 hi).1
 rw[plAt_of hi] at this
 simp[this]
theorem RowOk.made (hs:ByteArray->Nat) (n:Nat):RowOk hs (List.replicate n emptyPl):=by
 constructor
 intro i p hp hs1
 rw[List.getElem?_replicate] at hp
 split at hp
 ·cases hp;exact absurd hs1 (by decide)
 ·cases hp
theorem fulls_made (n:Nat):fulls (List.replicate n emptyPl)=[]:=by
 induction n with
 |zero=>rfl
 |succ n ih=>simp only[List.replicate_succ,fulls,List.filterMap_cons] at ih⊢;simp[plOf,emptyPl] at ih⊢
theorem cnt_made (n:Nat) (s:Int) (hs:s≠0):cntSt (List.replicate n emptyPl) s=0:=by
 rw[cntSt,List.countP_eq_zero]
 intro p hp
 rw[(List.mem_replicate.1 hp).2]
 simpa[emptyPl] using Ne.symm hs
structure Row where
 ps:List Pl
 fl:Int
 gr:Int
variable {r:Row}
structure Tb where
 old:Row
 fresh:Row
 moving:Bool
 next:Nat
variable {T:Tb}
def noRow:Row:=⟨[],0,0⟩
structure RowFit (hs:ByteArray->Nat) (r:Row):Prop where
 ok:RowOk hs r.ps
 fl:r.fl=cntSt r.ps 1
 gr:r.gr=cntSt r.ps 2
structure TabOk (hs:ByteArray->Nat) (T:Tb) (M:KV) (c:Nat):Prop where
 old:RowFit hs T.old
 fresh:RowFit hs T.fresh
 len:8<=T.old.ps.length
 lenB:T.old.ps.length<=1099511627776
 perm:(fulls T.old.ps++fulls T.fresh.ps).Perm M
 nodup:(M.map Prod.fst).Nodup
 idle:T.moving=false->T.fresh=noRow/\T.next=0
 busy:T.moving=true->T.next<T.old.ps.length/\8<=T.fresh.ps.length/\T.fresh.ps.length<=1099511627776/\T.old.ps.length<=2*T.fresh.ps.length+1/\
  4*M.length+c<=T.fresh.ps.length+T.next/\∀i,i<T.next->(plAt T.old.ps i).st≠1
theorem TabOk.weak (h:TabOk hs T M c) (hc:c'<=c):TabOk hs T M c':=
 ⟨h.old,h.fresh,h.len,h.lenB,h.perm,h.nodup,h.idle,fun m=>by
  obtain⟨a1,a2,a3,a4,a5,a6⟩:=h.busy m
  exact⟨a1,a2,a3,a4,by omega,a6⟩⟩
theorem noRow_fit (hs:ByteArray->Nat):RowFit hs noRow:=⟨⟨by simp[noRow]⟩,rfl,rfl⟩
theorem made_fit (hs:ByteArray->Nat) (n:Nat):RowFit hs ⟨List.replicate n emptyPl,0,0⟩:=
 ⟨RowOk.made hs n,by rw[cnt_made n 1 (by decide)];rfl,by rw[cnt_made n 2 (by decide)];rfl⟩
def newTb:Tb:=⟨⟨List.replicate 8 emptyPl,0,0⟩,noRow,false,0⟩
theorem newTb_ok (hs:ByteArray->Nat):TabOk hs newTb [] 4:=by
 refine⟨made_fit hs 8,noRow_fit hs,by simp[newTb],by simp[newTb],?_,by simp,fun _=>⟨rfl,rfl⟩,by simp[newTb]⟩
 simp only[newTb,fulls_made,noRow]
 exact List.Perm.refl _
def Row.putAt (r:Row) (i:Nat) (k:ByteArray) (n:Int):Row:=
 if(plAt r.ps i).st=1 then⟨r.ps.set i ⟨1,k,n⟩,r.fl,r.gr⟩
 else⟨r.ps.set i ⟨1,k,n⟩,r.fl+1,if(plAt r.ps i).st=2 then r.gr - 1 else r.gr⟩
def Row.bury (r:Row) (i:Nat):Row:=⟨r.ps.set i gravePl,r.fl - 1,r.gr+1⟩
def Row.setN (r:Row) (i:Nat) (n:Int):Row:=⟨r.ps.set i ⟨(plAt r.ps i).st,(plAt r.ps i).key,n⟩,r.fl,r.gr⟩
theorem RowFit.bury (h:RowFit hs r) (hi:i<r.ps.length) (h1:(plAt r.ps i).st=1):RowFit hs (r.bury i):=by
 have c1:=cnt_set (q:=gravePl) 1 hi
 have c2:=cnt_set (q:=gravePl) 2 hi
 have e1:gravePl.st=2:=rfl
 rw[h1,e1] at c1 c2
 refine⟨h.ok.set_grave hi (by decide) (by decide),?_,?_⟩
 ·have:=h.fl;simp only[Row.bury] at *;simp at c1;omega
 ·have:=h.gr;simp only[Row.bury] at *;simp at c2;omega
theorem RowFit.setN {n:Int} (h:RowFit hs r) (hi:i<r.ps.length):RowFit hs (r.setN i n):=by
 have c1:=cnt_set (q:=⟨(plAt r.ps i).st,(plAt r.ps i).key,n⟩) 1 hi
 have c2:=cnt_set (q:=⟨(plAt r.ps i).st,(plAt r.ps i).key,n⟩) 2 hi
 refine⟨h.ok.set_n hi,?_,?_⟩
 ·have:=h.fl;simp only[Row.setN] at *;omega
 ·have:=h.gr;simp only[Row.setN] at *;omega
structure PutPlace (hs:ByteArray->Nat) (ps:List Pl) (k:ByteArray) (i:Nat):Prop where
 lt:i<ps.length
 free:(plAt ps i).st≠1
 path:∃d,d<ps.length/\i=pathAt hs ps.length k d/\∀e,e<d->(plAt ps (pathAt hs ps.length k e)).st≠0
theorem RowFit.putAt {n:Int} (h:RowFit hs r) (hp:PutPlace hs r.ps k i):RowFit hs (r.putAt i k n):=by
 have c1:=cnt_set (q:=⟨1,k,n⟩) 1 hp.lt
 have c2:=cnt_set (q:=⟨1,k,n⟩) 2 hp.lt
 have hf:=hp.free
 unfold Row.putAt
 rw[if_neg hf]
 refine⟨h.ok.set_full hp.lt hp.path,?_,?_⟩
 ·have:=h.fl;simp[hf] at c1;simp only;omega
 ·have:=h.gr
  simp only
  by_cases h2:(plAt r.ps i).st=2
  ·simp[h2] at c2⊢;omega
  ·simp[h2] at c2⊢;omega
theorem fulls_putAt {n:Int} (hi:i<r.ps.length) (hf:(plAt r.ps i).st≠1):(fulls (r.putAt i k n).ps).Perm ((k,n)::fulls r.ps):=by
 unfold Row.putAt
 rw[if_neg hf]
 exact fulls_set_full hi hf
theorem len_putAt (r:Row) (i:Nat) (k:ByteArray) (n:Int):(r.putAt i k n).ps.length=r.ps.length:=by
 unfold Row.putAt;split<;>simp
theorem Found.place {r:Option Nat×Bool} (h:Found hs ps k r) (hr:r.2=false) (hroom:(fulls ps).length<ps.length):
 ∃i,r.1=some i/\PutPlace hs ps k i:=by
 have h2:=(h.no hr).2
 cases hr1:r.1 with
 |none=>
  rw[hr1] at h2
  have:=cnt_all h2
  rw[cnt_fulls] at this
  omega
 |some f=>
  rw[hr1] at h2
  exact⟨f,rfl,h2.1,h2.2.1,h2.2.2⟩
theorem perm_nodup_keys {a b:KV} (h:a.Perm b) (hn:(b.map Prod.fst).Nodup):(a.map Prod.fst).Nodup:=(h.map Prod.fst).nodup_iff.2 hn
theorem TabOk.keys_nodup (h:TabOk hs T M c):((fulls T.old.ps++fulls T.fresh.ps).map Prod.fst).Nodup:=perm_nodup_keys h.perm h.nodup
theorem TabOk.lens (h:TabOk hs T M c):(fulls T.old.ps).length+(fulls T.fresh.ps).length=M.length:=by
 rw[<-List.length_append];exact h.perm.length_eq
theorem TabOk.room (h:TabOk hs T M c) (hm:T.moving=true):(fulls T.fresh.ps).length<T.fresh.ps.length:=by
 obtain⟨a1,a2,a3,a4,a5,a6⟩:=h.busy hm
 have:=h.lens
 omega
theorem TabOk.move {r:Option Nat×Bool} (h:TabOk hs T M c) (hm:T.moving=true) (h1:(plAt T.old.ps T.next).st=1)
 (hfd:Found hs T.fresh.ps (plAt T.old.ps T.next).key r) (hr:r.1=some i):
  r.2=false/\PutPlace hs T.fresh.ps (plAt T.old.ps T.next).key i/\
  TabOk hs {T with old:=T.old.bury T.next,fresh:=T.fresh.putAt i (plAt T.old.ps T.next).key (plAt T.old.ps T.next).n} M c:=by
  obtain⟨a1,a2,a3,a4,a5,a6⟩:=h.busy hm
  have hg:=fulls_set_grave (ps:=T.old.ps) (q:=gravePl) (by decide) a1 h1
  have hnd:=h.keys_nodup
  have hno:r.2=false:=by
   cases hr2:r.2 with
   |false=>rfl
   |true=>
    exfalso
    obtain⟨i',hi',hlt,hst,hk⟩:=hfd.yes hr2
    have m1:(plAt T.old.ps T.next).key∈(fulls T.fresh.ps).map Prod.fst:=
     List.mem_map.2 ⟨_,mem_fulls.2 ⟨i',_,at_plAt hlt,hst,hk,rfl⟩,rfl⟩
    have m2:(plAt T.old.ps T.next).key∈(fulls T.old.ps).map Prod.fst:=
     List.mem_map.2 ⟨_,mem_fulls.2 ⟨T.next,_,at_plAt a1,h1,rfl,rfl⟩,rfl⟩
    rw[List.map_append,List.nodup_append] at hnd
    exact hnd.2.2 _ m2 _ m1 rfl
  obtain⟨i',hi',hp⟩:=hfd.place hno (h.room hm)
  obtain rfl:i'=i:=by rw[hr] at hi';exact(Option.some.inj hi').symm
  refine⟨hno,hp,h.old.bury a1 h1,h.fresh.putAt hp,by simpa[Row.bury] using h.len,by simpa[Row.bury] using h.lenB,?_,h.nodup,fun e=>by simp[hm] at e,fun _=>?_⟩
  ·refine List.Perm.trans ?_ h.perm
   refine List.Perm.trans (List.Perm.append_left _ (fulls_putAt hp.lt hp.free)) ?_
   refine List.Perm.trans List.perm_middle ?_
   exact(List.Perm.append_right _ hg.symm)
  ·simp only[Row.bury,List.length_set,len_putAt]
   refine⟨a1,a2,a3,a4,a5,fun j hj=>?_⟩
   rw[plAt_set a1]
   split
   ·decide
   ·exact a6 j hj
theorem TabOk.pass (h:TabOk hs T M c) (hm:T.moving=true) (h1:(plAt T.old.ps T.next).st≠1) (hlt:T.next+1<T.old.ps.length):
 TabOk hs {T with next:=T.next+1} M (c+1):=by
 obtain⟨a1,a2,a3,a4,a5,a6⟩:=h.busy hm
 refine⟨h.old,h.fresh,h.len,h.lenB,h.perm,h.nodup,fun e=>by simp[hm] at e,fun _=>⟨hlt,a2,a3,a4,by simp only;omega,fun j hj=>?_⟩⟩
 simp only at hj
 rcases Nat.lt_or_ge j T.next with h'|h'
 ·exact a6 j h'
 ·obtain rfl:j=T.next:=by omega
  exact h1
theorem fulls_none (h:∀i,i<ps.length->(plAt ps i).st≠1):fulls ps=[]:=by
 rw[fulls,List.filterMap_eq_nil_iff]
 intro p hp
 obtain⟨i,hi⟩:=List.mem_iff_getElem?.1 hp
 have:=h i (List.getElem?_eq_some_iff.1 hi).1
 rw[plAt_of hi] at this
 simp[plOf,this]
theorem TabOk.done (h:TabOk hs T M c) (hm:T.moving=true) (h1:(plAt T.old.ps T.next).st≠1) (hlt:T.next+1=T.old.ps.length):
 TabOk hs ⟨T.fresh,noRow,false,0⟩ M c':=by
 obtain⟨a1,a2,a3,a4,a5,a6⟩:=h.busy hm
 refine⟨h.fresh,noRow_fit hs,a2,a3,?_,h.nodup,fun _=>⟨rfl,rfl⟩,by simp⟩
 have:fulls T.old.ps=[]:=fulls_none fun i hi=>by
  rcases Nat.lt_or_ge i T.next with h'|h'
  ·exact a6 i h'
  ·obtain rfl:i=T.next:=by omega
   exact h1
 have hp:=h.perm
 rw[this] at hp
 simpa[noRow,fulls] using hp
theorem TabOk.grown {room:Nat} (h:TabOk hs T M c) (hm:T.moving=false) (h8:8<=room) (hB:room<=1099511627776) (h2:T.old.ps.length<=2*room+1)
 (h4:T.old.fl<room/4):TabOk hs ⟨T.old,⟨List.replicate room emptyPl,0,0⟩,true,0⟩ M 4:=by
  obtain⟨e1,e2⟩:=h.idle hm
  have hl:=h.lens
  have hfl:=h.old.fl
  rw[cnt_fulls] at hfl
  have hp:=h.perm
  rw[e1] at hp hl
  simp only[noRow,fulls,List.filterMap_nil,List.append_nil,List.length_nil] at hp hl
  refine⟨h.old,made_fit hs room,h.len,h.lenB,by rw[fulls_made];simpa[fulls] using hp,h.nodup,by simp,fun _=>⟨by have:=h.len;simp only;omega,by simpa using h8,by simpa using hB,by simpa using h2,?_,by simp⟩⟩
  simp only[List.length_replicate,fulls] at *
  omega
theorem notin_of_absent (h:TabOk hs T M c)
 (ho:∀(i:Nat) (p:Pl),T.old.ps[i]? =some p->p.st=1->p.key≠k) (hf:∀(i:Nat) (p:Pl),T.fresh.ps[i]? =some p->p.st=1->p.key≠k):k∉M.map Prod.fst:=by
  intro hk
  obtain⟨⟨k',n⟩,hm,rfl⟩:=List.mem_map.1 hk
  have:=h.perm.mem_iff.2 hm
  rw[List.mem_append] at this
  rcases this with this|this
  ·obtain⟨i,p,hi,hs1,hk',_⟩:=mem_fulls.1 this
   exact ho i p hi hs1 hk'
  ·obtain⟨i,p,hi,hs1,hk',_⟩:=mem_fulls.1 this
   exact hf i p hi hs1 hk'
theorem TabOk.putFresh {n:Int} (h:TabOk hs T M 4) (hm:T.moving=true) (hk:k∉M.map Prod.fst)
 (hp:PutPlace hs T.fresh.ps k i):TabOk hs {T with fresh:=T.fresh.putAt i k n} ((k,n)::M) 0:=by
  obtain⟨a1,a2,a3,a4,a5,a6⟩:=h.busy hm
  refine⟨h.old,h.fresh.putAt hp,h.len,h.lenB,?_,by simpa using ⟨by simpa using hk,h.nodup⟩,fun e=>by simp[hm] at e,fun _=>?_⟩
  ·refine List.Perm.trans (List.Perm.append_left _ (fulls_putAt hp.lt hp.free)) ?_
   exact List.Perm.trans List.perm_middle (List.Perm.cons _ h.perm)
  ·simp only[len_putAt,List.length_cons]
   exact⟨a1,a2,a3,a4,by omega,a6⟩
theorem TabOk.putOld {n:Int} (h:TabOk hs T M c) (hm:T.moving=false) (hk:k∉M.map Prod.fst)
 (hp:PutPlace hs T.old.ps k i):TabOk hs {T with old:=T.old.putAt i k n} ((k,n)::M) c':=by
  refine⟨h.old.putAt hp,h.fresh,by simpa[len_putAt] using h.len,by simpa[len_putAt] using h.lenB,?_,by simpa using ⟨by simpa using hk,h.nodup⟩,h.idle,fun e=>by simp[hm] at e⟩
  refine List.Perm.trans (List.Perm.append_right _ (fulls_putAt hp.lt hp.free)) ?_
  exact List.Perm.cons _ h.perm
theorem TabOk.roomOld (h:TabOk hs T M c) (h2:2*(T.old.fl+T.old.gr)<T.old.ps.length):(fulls T.old.ps).length<T.old.ps.length:=by
 have hfl:=h.old.fl
 have hgr:=h.old.gr
 rw[cnt_fulls] at hfl
 omega
def look (M:KV) (k:ByteArray):Option Int:=(M.find? (fun p=>decide (p.1=k))).map Prod.snd
def without (M:KV) (k:ByteArray):KV:=M.filter (fun p=>decide (p.1≠k))
theorem look_of_mem {n:Int} (hn:(M.map Prod.fst).Nodup) (h:(k,n)∈M):look M k=some n:=by
 induction M with
 |nil=>cases h
 |cons p M ih=>
  simp only[List.map_cons,List.nodup_cons] at hn
  unfold look
  rw[List.find?_cons]
  by_cases hp:p.1=k
  ·rw[show decide (p.1=k)=true from by simp[hp]]
   rcases List.mem_cons.1 h with rfl|hm
   ·rfl
   ·exact absurd (List.mem_map.2 ⟨_,hm,hp.symm⟩) hn.1
  ·rw[show decide (p.1=k)=false from by simp[hp]]
   rcases List.mem_cons.1 h with rfl|hm
   ·exact absurd rfl hp
   ·exact ih hn.2 hm
theorem look_none:look M k=none ↔ k∉M.map Prod.fst:=by
 simp only[look,Option.map_eq_none_iff,List.find?_eq_none,List.mem_map,not_exists,not_and]
 constructor
 ·intro h p hp e;exact h p hp (by simp[e])
 ·intro h p hp e;exact h p hp (by simpa using e)
theorem mem_of_look {n:Int} (h:look M k=some n):(k,n)∈M:=by
 simp only[look,Option.map_eq_some_iff] at h
 obtain⟨⟨k',n'⟩,hf,rfl⟩:=h
 have h1:=List.find?_some hf
 have h2:=List.mem_of_find?_eq_some hf
 simp at h1
 subst h1
 exact h2
theorem without_perm {r:KV} {n:Int} (hn:(M.map Prod.fst).Nodup) (h:M.Perm ((k,n)::r)):(without M k).Perm r:=by
 have h1:=h.filter (fun p=>decide (p.1≠k))
 simp only[List.filter_cons,ne_eq,not_true,decide_false,Bool.false_eq_true,if_false] at h1
 refine List.Perm.trans h1 ?_
 rw[List.filter_eq_self.2]
 intro p hp
 have hn2:=perm_nodup_keys h.symm hn
 simp only[List.map_cons,List.nodup_cons] at hn2
 have:p.1≠k:=fun e=>hn2.1 (List.mem_map.2 ⟨p,hp,e⟩)
 simpa using this
theorem TabOk.memOld (h:TabOk hs T M c) (hi:i<T.old.ps.length) (h1:(plAt T.old.ps i).st=1):
 look M (plAt T.old.ps i).key=some (plAt T.old.ps i).n:=
 look_of_mem h.nodup (h.perm.mem_iff.1 (List.mem_append.2 (.inl (mem_fulls.2 ⟨i,_,at_plAt hi,h1,rfl,rfl⟩))))
theorem TabOk.memFresh (h:TabOk hs T M c) (hi:i<T.fresh.ps.length) (h1:(plAt T.fresh.ps i).st=1):
 look M (plAt T.fresh.ps i).key=some (plAt T.fresh.ps i).n:=
 look_of_mem h.nodup (h.perm.mem_iff.1 (List.mem_append.2 (.inr (mem_fulls.2 ⟨i,_,at_plAt hi,h1,rfl,rfl⟩))))
theorem nodup_filter (k:ByteArray) (h:(M.map Prod.fst).Nodup):((without M k).map Prod.fst).Nodup:=(List.filter_sublist.map Prod.fst).nodup h
theorem without_len (M:KV) (k:ByteArray):(without M k).length<=M.length:=List.length_filter_le _ _
theorem TabOk.buryOld (h:TabOk hs T M c) (hi:i<T.old.ps.length) (h1:(plAt T.old.ps i).st=1):
 TabOk hs {T with old:=T.old.bury i} (without M (plAt T.old.ps i).key) c:=by
 have hg:=fulls_set_grave (ps:=T.old.ps) (q:=gravePl) (by decide) hi h1
 have hp:M.Perm (((plAt T.old.ps i).key,(plAt T.old.ps i).n)::(fulls (T.old.bury i).ps++fulls T.fresh.ps)):=h.perm.symm.trans (hg.append_right _)
 have hl:=without_len M (plAt T.old.ps i).key
 refine⟨h.old.bury hi h1,h.fresh,by simpa[Row.bury] using h.len,by simpa[Row.bury] using h.lenB,(without_perm h.nodup hp).symm,nodup_filter _ h.nodup,h.idle,fun m=>?_⟩
 obtain⟨a1,a2,a3,a4,a5,a6⟩:=h.busy m
 simp only[Row.bury,List.length_set]
 refine⟨a1,a2,a3,a4,by omega,fun j hj=>?_⟩
 rw[plAt_set hi]
 split
 ·decide
 ·exact a6 j hj
theorem TabOk.buryFresh (h:TabOk hs T M c) (hm:T.moving=true) (hi:i<T.fresh.ps.length) (h1:(plAt T.fresh.ps i).st=1):
 TabOk hs {T with fresh:=T.fresh.bury i} (without M (plAt T.fresh.ps i).key) c:=by
 have hg:=fulls_set_grave (ps:=T.fresh.ps) (q:=gravePl) (by decide) hi h1
 have hp:M.Perm (((plAt T.fresh.ps i).key,(plAt T.fresh.ps i).n)::(fulls T.old.ps++fulls (T.fresh.bury i).ps)):=h.perm.symm.trans ((hg.append_left _).trans List.perm_middle)
 have hl:=without_len M (plAt T.fresh.ps i).key
 refine⟨h.old,h.fresh.bury hi h1,h.len,h.lenB,(without_perm h.nodup hp).symm,nodup_filter _ h.nodup,fun e=>by simp[hm] at e,fun m=>?_⟩
 obtain⟨a1,a2,a3,a4,a5,a6⟩:=h.busy m
 simp only[Row.bury,List.length_set]
 exact⟨a1,a2,a3,a4,by omega,a6⟩
theorem setN_perm {r:KV} {n n':Int} (hn:(M.map Prod.fst).Nodup) (h:M.Perm ((k,n)::r)):((k,n')::r).Perm ((k,n')::without M k):=
 List.Perm.cons _ (without_perm hn h).symm
theorem without_notin (M:KV) (k:ByteArray):k∉(without M k).map Prod.fst:=by
 intro h
 obtain⟨p,hp,he⟩:=List.mem_map.1 h
 have:=(List.mem_filter.1 hp).2
 simp[he] at this
theorem without_len_of {n:Int} (hn:(M.map Prod.fst).Nodup) (h:look M k=some n):(without M k).length+1=M.length:=by
 have hm:=mem_of_look h
 obtain⟨r,hr⟩:∃r,M.Perm ((k,n)::r):=by
  obtain⟨s,t,rfl⟩:=List.append_of_mem hm
  exact⟨s++t,List.perm_middle⟩
 rw[(without_perm hn hr).length_eq,hr.length_eq];rfl
theorem TabOk.setOld {n:Int} (h:TabOk hs T M c) (hi:i<T.old.ps.length) (h1:(plAt T.old.ps i).st=1):
 TabOk hs {T with old:=T.old.setN i n} (((plAt T.old.ps i).key,n)::without M (plAt T.old.ps i).key) c:=by
 obtain⟨r,hr1,hr2⟩:=fulls_set_again (n:=n) hi h1
 have hp:M.Perm (((plAt T.old.ps i).key,(plAt T.old.ps i).n)::(r++fulls T.fresh.ps)):=h.perm.symm.trans (hr1.append_right _)
 have hl:=without_len_of h.nodup (h.memOld hi h1)
 refine⟨h.old.setN hi,h.fresh,by simpa[Row.setN] using h.len,by simpa[Row.setN] using h.lenB,?_,by simpa using ⟨by simpa using without_notin M _,nodup_filter _ h.nodup⟩,h.idle,fun m=>?_⟩
 ·exact(hr2.append_right _).trans (setN_perm h.nodup hp)
 ·obtain⟨a1,a2,a3,a4,a5,a6⟩:=h.busy m
  simp only[Row.setN,List.length_set,List.length_cons]
  refine⟨a1,a2,a3,a4,by omega,fun j hj=>?_⟩
  rw[plAt_set hi]
  split
  ·rename_i e;rw[e] at hj;exact absurd h1 (a6 i hj)
  ·exact a6 j hj
theorem TabOk.setFresh {n:Int} (h:TabOk hs T M c) (hm:T.moving=true) (hi:i<T.fresh.ps.length) (h1:(plAt T.fresh.ps i).st=1):
 TabOk hs {T with fresh:=T.fresh.setN i n} (((plAt T.fresh.ps i).key,n)::without M (plAt T.fresh.ps i).key) c:=by
 obtain⟨r,hr1,hr2⟩:=fulls_set_again (n:=n) hi h1
 have hp:M.Perm (((plAt T.fresh.ps i).key,(plAt T.fresh.ps i).n)::(fulls T.old.ps++r)):=h.perm.symm.trans ((hr1.append_left _).trans List.perm_middle)
 have hl:=without_len_of h.nodup (h.memFresh hi h1)
 refine⟨h.old,h.fresh.setN hi,h.len,h.lenB,?_,by simpa using ⟨by simpa using without_notin M _,nodup_filter _ h.nodup⟩,fun e=>by simp[hm] at e,fun m=>?_⟩
 ·exact((hr2.append_left _).trans List.perm_middle).trans (setN_perm h.nodup hp)
 ·obtain⟨a1,a2,a3,a4,a5,a6⟩:=h.busy m
  simp only[Row.setN,List.length_set,List.length_cons]
  exact⟨a1,a2,a3,a4,by omega,a6⟩
end Go.Proofs.YtlbjfafbahphgaaGreatDoor
namespace Go.Proofs.YtlbjfafbahphgaaGreatDoor
open Go Go.RowKit
variable {w:World}{pb i:Nat}{ps:List Pl}
def plVals (p:Pl):List Value:=[.int .i64 p.st,.string p.key,.int .i64 p.n]
def plCells (ps:List Pl):List Value:=ps.flatMap plVals
theorem plCells_len (ps:List Pl):(plCells ps).length=3*ps.length:=by
 induction ps with
 |nil=>rfl
 |cons p ps ih=>
  have e:(plCells (p::ps)).length=3+(plCells ps).length:=by simp only[plCells,List.flatMap_cons,List.length_append];rfl
  rw[e,ih,List.length_cons];omega
theorem plCells_get (ps:List Pl) (i j:Nat) (hj:j<3):(plCells ps)[i*3+j]? =if i<ps.length then(plVals (plAt ps i))[j]? else none:=by
 induction ps generalizing i with
 |nil=>simp[plCells]
 |cons p ps ih=>
  cases i with
  |zero=>
   simp only[plCells,List.flatMap_cons,Nat.zero_mul,Nat.zero_add,List.length_cons,Nat.zero_lt_succ,if_true]
   rw[List.getElem?_append_left (by simp[plVals];omega)]
   rfl
  |succ i=>
   simp only[plCells,List.flatMap_cons] at ih⊢
   rw[List.getElem?_append_right (by simp[plVals];omega)]
   have e:(i+1)*3+j - (plVals p).length=i*3+j:=by simp[plVals];omega
   rw[e,ih i]
   simp only[List.length_cons,Nat.add_lt_add_iff_right]
   rfl
def PlacesAt (w:World) (pb:Nat) (ps:List Pl):Prop:=w.heap[pb]? =some (.cells (plCells ps).toArray 86 (0,0))
theorem PlacesAt.st (h:PlacesAt w pb ps) (hi:i<ps.length):w.cell? ⟨pb,i*3,none⟩=some (.int .i64 (plAt ps i).st):=by
 have:=plCells_get ps i 0 (by omega)
 rw[if_pos hi] at this
 rw[cells_get h];simpa[plVals] using this
theorem PlacesAt.key (h:PlacesAt w pb ps) (hi:i<ps.length):w.cell? ⟨pb,i*3+1,none⟩=some (.string (plAt ps i).key):=by
 have:=plCells_get ps i 1 (by omega)
 rw[if_pos hi] at this
 rw[cells_get h];simpa[plVals] using this
theorem PlacesAt.n (h:PlacesAt w pb ps) (hi:i<ps.length):w.cell? ⟨pb,i*3+2,none⟩=some (.int .i64 (plAt ps i).n):=by
 have:=plCells_get ps i 2 (by omega)
 rw[if_pos hi] at this
 rw[cells_get h];simpa[plVals] using this
theorem findGo_step (ps:List Pl) (k:ByteArray) (L f i:Nat) (free:Option Nat):findGo ps k L (f+1) i free=
 if(plAt ps i).st=1/\(plAt ps i).key=k then(some i,true)
 else if(plAt ps i).st=0 then(if free=none then some i else free,false)
 else findGo ps k L f ((i+1)%L) (if(plAt ps i).st≠1/\free=none then some i else free):=rfl
def freeInt:Option Nat->Int
 |none=> -1
 |some i=>i
theorem freeInt_neg {f:Option Nat} (h:freeInt f<0):f=none:=by
 cases f with
 |none=>rfl
 |some i=>simp only[freeInt] at h;omega
theorem freeInt_pos {f:Option Nat} (h:0<=freeInt f):f≠none:=by
 rintro rfl;simp[freeInt] at h
theorem find_any (b o pb:Nat) (ps:List Pl) (key:ByteArray) (w:World) (hk:key.size<=maxLen) (hL:0<ps.length) (hB:ps.length<=1099511627776)
 (hr:w.cell? ⟨b,o,none⟩=some (.slice (some ⟨pb,0,none⟩) ps.length ps.length)) (hp:PlacesAt w pb ps):
  Calls Tryz.prog 178 #[.pointer (some ⟨b,o,none⟩),.string key] w fun e w'=>
   e= .returned (.tuple #[.int .i64 (freeInt (findRow hashNat ps key).1),.bool (findRow hashNat ps key).2])/\∃n,w'=w.drewN n:=by
  have hp':=hid hp
  clear hp
  have hw7:wrap64 ((hashNat key:Nat)%(ps.length:Int))=((pathAt hashNat ps.length key 0:Nat):Int):=by
   have h1:=Nat.mod_lt (hashNat key) hL
   unfold wrap64 pathAt
   rw[<-Int.natCast_emod,Nat.add_zero]
   omega
  have h0:Hid (findGo ps key ps.length (ps.length - 0) (pathAt hashNat ps.length key 0) none=findRow hashNat ps key):=rfl
  go_enter Tryz.func178,Tryz.ntmps178
  go_wp2_with fail
  go_quiet ((go_at_call 210;exact Calls.quiet_of_same (same_flip (hash_any key _ hk))))
  go_wp2_with fail
  go_loop [6,7,24] (fun fr a c=>∃(j:Nat) (free:Option Nat),j<=ps.length/\c= .int .i64 j/\a= .int .i64 (pathAt hashNat ps.length key j:Nat)/\fr= .int .i64 (freeInt free)/\
   Hid (findGo ps key ps.length (ps.length - j) (pathAt hashNat ps.length key j) free=findRow hashNat ps key)) (fun _ _ c=>ps.length - (intOf c).toNat)
  case atStart=>exact⟨0,none,Nat.zero_le _,rfl,by rw[hw7],rfl,h0⟩
  case round=>
   obtain⟨j,free,hj,rfl,rfl,rfl,hgo⟩:=hrel
   clear hw7
   by_cases hlt:j<ps.length
   ·have hi:=pathAt_lt hashNat hL key j
    have c0:=hp'.out.st hi
    have c1:=hp'.out.key hi
    have hst:=hgo.out
    rw[show ps.length - j=(ps.length - (j+1))+1 by omega,findGo_step,pathAt_succ] at hst
    replace hst:=hid hst
    clear hgo
    have hmod:(((pathAt hashNat ps.length key j:Nat):Int)+1)%(ps.length:Int)=((pathAt hashNat ps.length key (j+1):Nat):Int):=by rw[<-pathAt_succ];rfl
    replace hmod:=hid hmod
    generalize plAt ps (pathAt hashNat ps.length key j)=p at *
    generalize pathAt hashNat ps.length key j=i at *
    go_wp2_with fail
    ·rename_i h1 h2 _
     go_ret2
     rw[<-hst.out,if_pos ⟨h1,str_yes h2⟩]
     exact⟨rfl,_,rfl⟩
    ·rename_i h1 h2
     go_round
     case rel=>
      refine⟨j+1,free,by omega,by go_num,by rw[hmod.out],rfl,?_⟩
      have:=hst.out
      rw[if_neg (fun h=>str_no h2 h.2),if_neg (by rw[h1];decide),if_neg (fun h=>h.1 h1)] at this
      exact this
     case measure=>simp[intOf];omega
    ·have h1:¬p.st=1:=by assumption
     have h2:(p.st !=1)=true/\freeInt free<0:=by assumption
     have h3:(p.st==0)=true:=by assumption
     go_ret2
     have hf:=freeInt_neg h2.2
     subst hf
     rw[<-hst.out,if_neg (fun h=>h1 h.1),if_pos (by simpa using h3)]
     exact⟨rfl,_,rfl⟩
    ·rename_i h1 h2 h3
     have hf:=freeInt_neg h2.2
     subst hf
     go_round
     case rel=>
      refine⟨j+1,some i,by omega,by go_num,by rw[hmod.out],rfl,?_⟩
      have:=hst.out
      rw[if_neg (fun h=>h1 h.1),if_neg (by simpa using h3),if_pos ⟨h1,rfl⟩] at this
      exact this
     case measure=>simp[intOf];omega
    ·have h1:¬p.st=1:=by assumption
     have h2:(p.st !=1)=false\/0<=freeInt free:=by assumption
     have h3:(p.st==0)=true:=by assumption
     go_ret2
     have hf:=freeInt_pos (h2.resolve_left (by simpa using h1))
     rw[<-hst.out,if_neg (fun h=>h1 h.1),if_pos (by simpa using h3)]
     simp only[hf,if_false]
     exact⟨rfl,_,rfl⟩
    ·rename_i h1 h2 h3
     have hf:=freeInt_pos (h2.resolve_left (by simpa using h1))
     go_round
     case rel=>
      refine⟨j+1,free,by omega,by go_num,by rw[hmod.out],rfl,?_⟩
      have:=hst.out
      rw[if_neg (fun h=>h1 h.1),if_neg (by simpa using h3),if_neg (fun h=>hf h.2)] at this
      exact this
     case measure=>simp[intOf];omega
   ·obtain rfl:j=ps.length:=by omega
    have hst:=hgo.out
    rw[Nat.sub_self] at hst
    replace hst:=hid hst
    clear hgo
    go_wp2_with fail
    go_ret2
    rw[<-hst.out]
    exact⟨rfl,_,rfl⟩
end Go.Proofs.YtlbjfafbahphgaaGreatDoor
