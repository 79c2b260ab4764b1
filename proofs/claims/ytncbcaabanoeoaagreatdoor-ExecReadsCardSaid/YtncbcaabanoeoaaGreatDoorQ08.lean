/-
expiry: New, Get, Drop, Put, by which keys end when.
-/
import Derived.Test.YtncbcaabanoeoaaGreatDoorProg
import Derived.Test.YtncbcaabanoeoaaGreatDoorQ01
import Derived.Test.YtncbcaabanoeoaaGreatDoorQ03
import Derived.Test.YtncbcaabanoeoaaGreatDoorQ05
import Derived.Test.YtncbcaabanoeoaaGreatDoorQ07
set_option linter.unusedVariables false
set_option linter.unusedSimpArgs false
set_option maxRecDepth 100000
set_option maxHeartbeats 8000000
namespace Go.Proofs.YtncbcaabanoeoaaGreatDoor
open Go Go.RowKit
variable {α:Type}
def J21 (xb mb:Nat) (rv:Value) (sl:Hp) (es:List En) (o:Obj):Hp:=K9 xb mb rv sl es++[(mb,o)]
def Jb4 (e:En):ByteArray×Value:=(e.key,J2y e.b)
def J9b (e:En):ByteArray×Int:=(e.key,e.t)
def Kq (l:Hp) (xb:Nat) (D:AL Int):Prop:=
 ∃mb o rv sl es m,l=J21 xb mb rv sl es o/\J0r rv sl es/\J2a o m/\m.Perm (es.map Jb4)/\D.Perm (es.map J9b)/\(D.map Prod.fst).Nodup
theorem Jhs (es:List En):(es.map Jb4).map Prod.fst=(es.map J9b).map Prod.fst:=by simp[Jb4,J9b,Function.comp_def]
theorem Jby (w:World):(zeroValue 229).run Tryz.prog w= .ok (.pointer none) w:=by kernel_rfl
theorem J65 (es:List En) (key:ByteArray):(Je (es.map Jb4) key=none/\Je (es.map J9b) key=none/\∀e∈es,e.key≠key)\/∃(i:Nat) (e:En),es[i]? =some e/\e.key=key/\Je (es.map Jb4) key=some (J2y e.b)/\Je (es.map J9b) key=some e.t:=by
 induction es with
 |nil=>exact .inl ⟨rfl,rfl,by simp⟩
 |cons q es ih=>
  by_cases hq:q.key=key
  ·refine .inr ⟨0,q,rfl,hq,?_,?_⟩
   ·simp[Je,Jb4,hq]
   ·simp[Je,J9b,hq]
  ·rcases ih with⟨h1,h2,h3⟩|⟨i,e,h1,h2,h3,h4⟩
   ·refine .inl ⟨?_,?_,?_⟩
    ·simpa[Je,Jb4,hq] using h1
    ·simpa[Je,J9b,hq] using h2
    ·intro e he
     rcases List.mem_cons.1 he with rfl|he
     ·exact hq
     ·exact h3 e he
   ·refine .inr ⟨i+1,e,by simpa using h1,h2,?_,?_⟩
    ·simpa[Je,Jb4,hq] using h3
    ·simpa[Je,J9b,hq] using h4
theorem Jg6 {m m':AL α} (h:m.Perm m') (k:ByteArray):(K3 m k).Perm (K3 m' k):=h.filter _
theorem Jbb {m:AL α} {k:ByteArray} {v:α} (h:k∉m.map Prod.fst):K3 ((k,v)::m) k=m:=by
 simp only[K3,List.filter_cons];simp only[ne_eq,not_true,decide_false,Bool.false_eq_true,if_false];rw[List.filter_eq_self];intro p hp
 have:p.1≠k:=fun e=>h (List.mem_map.2 ⟨p,hp,e⟩)
 simpa using this
def Jdh (D:AL Int) (key:ByteArray) (w:World) (e:Ending) (w':World):Prop:=
 e= .returned (.tuple #[.int .i64 ((Je D key).getD 0),.bool (Je D key).isSome])/\w=w'
theorem Jjc (l:Hp) (xb:Nat) (D:AL Int) (key:ByteArray) (w:World) (hX:Kq l xb D) (ho:Own w l):
 Calls Tryz.prog 113 #[.pointer (some ⟨xb,0,none⟩),.string key] w (Jdh D key w):=by
 obtain⟨mb,o,rv,sl,es,m,rfl,hat,hm,hp,hD,hn⟩:=hX
 have hmn:(m.map Prod.fst).Nodup:=by
  have h1:(m.map Prod.fst).Perm (D.map Prod.fst):=((hp.map Prod.fst).trans (List.Perm.of_eq (Jhs es))).trans (hD.map Prod.fst).symm;exact h1.nodup_iff.2 hn
 have c1:w.cell? ⟨xb,1,none⟩=some (.map (some mb)):=J2 ho.head 1;have hmb:w.heap[mb]? =some o:=ho.right.head;have hlk:=J5g (P:=Tryz.prog) (t:=101) Tryz.underlying101 Tryz.underlying9 Jby hmb hm key;rw[J0u hp hmn] at hlk;have hpost:Hid (∀n is,(Je D key).getD 0=n->(Je D key).isSome=is->Jdh D key w (.returned (.tuple #[.int .i64 n,.bool is])) w):=fun n is h1 h2=>by subst h1 h2;exact⟨rfl,rfl⟩
 rw[J0u hD hn] at hpost;rcases J65 es key with⟨h1,h2,h3⟩|⟨i,e,hi,hk,h1,h2⟩
 ·rw[h1] at hlk
  rw[h2] at hpost;simp only[Option.getD_none,Option.isSome_none] at hlk;clear h1 h2 h3 hp hD hn hm hat ho;go_enter Tryz.func113,Tryz.ntmps113;go_wp2_with fail;go_ret2;exact hpost.out 0 false rfl rfl
 ·rw[h1] at hlk
  rw[h2] at hpost;simp only[Option.getD_some,Option.isSome_some] at hlk;have hil:=(List.getElem?_eq_some_iff.1 hi).1;have he:w.heap[e.b]? =some (J25 e i):=by
   have:=Jdy (r1:=(xb,J27 rv mb)::sl) (r2:=[(mb,o)]) (i:=i) (by simpa[J21,K9] using ho) hil
   rwa[(List.getElem?_eq_some_iff.1 hi).2] at this
  have e0:w.cell? ⟨e.b,0,none⟩=some (.int .i64 e.t):=J2 he 0;clear h1 h2 hp hD hn hm hat ho hi hil he;go_enter Tryz.func113,Tryz.ntmps113;go_wp2_with fail;go_ret2;exact hpost.out e.t true rfl rfl
theorem Jjd (w:World):Calls Tryz.prog 20 #[] w fun e w'=>∃xb l',e= .returned (.pointer (some ⟨xb,0,none⟩))/\Kq l' xb []/\J3 w [] w' l':=by
 have hmm:=@run_makeMap Tryz.prog;go_enter Tryz.func20,Tryz.ntmps20;go_wp2_with fail;go_ret;have S1:=((J3.refl (Own.nil w)).alloc (.map #[] 0)).alloc (J27 (.slice none 0 0) w.heap.size);refine⟨w.heap.size+1,J21 (w.heap.size+1) w.heap.size (.slice none 0 0) [] [] (.map #[] 0),rfl,⟨_,_,_,_,[],[],rfl,⟨.nil⟩,J2a.empty,List.Perm.refl _,List.Perm.refl _,by simp⟩,?_⟩
 have e:(w.alloc (.map #[] 0)).heap.size=w.heap.size+1:=by simp
 rw[e] at S1;exact S1
def Jfj (l:Hp) (xb:Nat) (D:AL Int) (key:ByteArray) (w:World) (e:Ending) (w':World):Prop:=
 e= .returned (.bool (Je D key).isSome)/\∃l',Kq l' xb (K3 D key)/\J3 w l w' l'
theorem Jw2 {w0:World} {l:Hp} {xb mb:Nat} {r:Hp} {es:List En} {x:En} {e:Ending} {w':World} (h:J6u w0 l xb mb r es x e w'):
 ∃rv' sl' es',e= .returned (.iface 229 (J2y x.b))/\(es'++[x]).Perm es/\J0r rv' sl' es'/\J3 w0 l w' (K9 xb mb rv' sl' es'++r):=by
 obtain⟨h1,rv',sl',es',h2,h3,h4⟩:=h
 exact⟨rv',sl',es',h1,h2,h3,h4.less (List.sublist_cons_self _ _)⟩
theorem Jb3 (l:Hp) (xb:Nat) (D:AL Int) (key:ByteArray) (w:World) (hX:Kq l xb D) (hB:D.length<=1099511627776) (ho:Own w l):
 Calls Tryz.prog 111 #[.pointer (some ⟨xb,0,none⟩),.string key] w (Jfj l xb D key w):=by
 obtain⟨mb,o,rv,sl,es,m,rfl,hat,hm,hp,hD,hn⟩:=hX
 have hmn:(m.map Prod.fst).Nodup:=by
  have h1:(m.map Prod.fst).Perm (D.map Prod.fst):=((hp.map Prod.fst).trans (List.Perm.of_eq (Jhs es))).trans (hD.map Prod.fst).symm;exact h1.nodup_iff.2 hn
 have hlenD:=hD.length_eq;rw[List.length_map] at hlenD;have c1:w.cell? ⟨xb,1,none⟩=some (.map (some mb)):=J2 ho.head 1;have hmb:w.heap[mb]? =some o:=ho.right.head;have hlk:=J5g (P:=Tryz.prog) (t:=101) Tryz.underlying101 Tryz.underlying9 Jby hmb hm key;rw[J0u hp hmn] at hlk;have hpost:Hid (∀is w' l',(Je D key).isSome=is->Kq l' xb (K3 D key)->J3 w (J21 xb mb rv sl es o) w' l'->Jfj (J21 xb mb rv sl es o) xb D key w (.returned (.bool is)) w'):=fun is w' l' h1 h2 h3=>by subst h1;exact⟨rfl,l',h2,h3⟩
 rw[J0u hD hn] at hpost;rcases J65 es key with⟨h1,h2,h3⟩|⟨i,e,hi,hk,h1,h2⟩
 ·rw[h1] at hlk
  rw[h2] at hpost;simp only[Option.getD_none,Option.isSome_none] at hlk;have hdel:K3 D key=D:=Jbc (by rw[J0u hD hn];exact h2)
  have hfin:=hid (show Kq (J21 xb mb rv sl es o) xb (K3 D key) by rw[hdel];exact⟨mb,o,rv,sl,es,m,rfl,hat,hm,hp,hD,hn⟩)
  have hst:=hid (J3.refl ho);clear h1 h2 h3 hp hD hn hm hat ho hmn hdel hlenD hB;go_enter Tryz.func111,Tryz.ntmps111;go_wp2_with fail;go_ret;exact hpost.out false _ _ rfl hfin.out hst.out
 ·rw[h1] at hlk
  rw[h2] at hpost;simp only[Option.getD_some,Option.isSome_some] at hlk;have hil:=(List.getElem?_eq_some_iff.1 hi).1;have he:w.heap[e.b]? =some (J25 e i):=by
   have:=Jdy (r1:=(xb,J27 rv mb)::sl) (r2:=[(mb,o)]) (i:=i) (by simpa[J21,K9] using ho) hil
   rwa[(List.getElem?_eq_some_iff.1 hi).2] at this
  have e2:w.cell? ⟨e.b,2,none⟩=some (.int .i64 i):=J2 he 2;have hrem:=hid (Jjr (J3.refl ho).drew hat hi (by omega))
  have hm':=hid hm;have hp':=hid hp;have hD':=hid hD;have hn':=hid hn;have hmn':=hid hmn;replace hk:=hid hk;clear h1 h2 hp hD hn hm hat ho hi hil he hmn hlenD hB;go_enter Tryz.func111,Tryz.ntmps111;go_wp2_with fail;go_still_tail 8,(by kernel_rfl)
  go_wp2_with fail;refine hrem.out.mono ?_;intro en w2 hR
  obtain⟨rv2,sl2,es2,rfl,hp2,hat2,S2⟩:=Jw2 hR
  have c1b:w2.cell? ⟨xb,1,none⟩=some (.map (some mb)):=J2 S2.own.head 1;obtain⟨o',hdel,hm2⟩:=Jp4 (P:=Tryz.prog) (t:=101) Tryz.underlying101 Tryz.underlying9 0 S2.own.right.head hm'.out hmn'.out key 9
  obtain⟨w3,hw3⟩:∃w3:World,w3={w2 with heap:=w2.heap.setIfInBounds mb o'}:=⟨_,rfl⟩
  rw[<-hw3] at hdel;have S3:J3 w (J21 xb mb rv sl es o) w3 (J21 xb mb rv2 sl2 es2 o'):=
   ((S2.permR (l2:=(mb,o)::K9 xb mb rv2 sl2 es2) List.perm_append_comm).obj hw3).permR (List.perm_append_comm (l₁:=[_]))
  have hfin:Hid (Kq (J21 xb mb rv2 sl2 es2 o') xb (K3 D key)):=by
   have hke:key=e.key:=hk.out.symm;subst hke;have hq:(e::es2).Perm es:=(List.perm_append_comm (l₁:=[e]) (l₂:=es2)).trans hp2;have hnd:((e::es2).map En.key).Nodup:=by
    have h1:(D.map Prod.fst).Perm ((e::es2).map En.key):=(hD'.out.map Prod.fst).trans ((List.Perm.of_eq (by simp[J9b,Function.comp_def])).trans (hq.map En.key).symm)
    exact h1.nodup_iff.1 hn'.out
   simp only[List.map_cons,List.nodup_cons] at hnd;refine⟨mb,o',rv2,sl2,es2,_,rfl,hat2,hm2,?_,?_,J4x hn'.out⟩
   ·have h1:=Jg6 (hp'.out.trans (hq.map Jb4).symm) e.key
    rw[List.map_cons] at h1;refine h1.trans (List.Perm.of_eq (Jbb ?_));simpa[Jb4,Function.comp_def] using hnd.1
   ·have h1:=Jg6 (hD'.out.trans (hq.map J9b).symm) e.key
    rw[List.map_cons] at h1;refine h1.trans (List.Perm.of_eq (Jbb ?_));simpa[J9b,Function.comp_def] using hnd.1
  replace S3:=hid S3;clear hlk hw3 hm2 S2 hR hp2 hat2;go_wp2_with fail;go_ret;exact hpost.out true _ _ rfl hfin.out S3.out
theorem Jr6 {m m':AL α} (h:m.Perm m') (k:ByteArray) (v:α):(mset m k v).Perm (mset m' k v):=h.map _
theorem Jqk {w0 w:World} {l r sl:Hp} {xb mb i:Nat} {rv:Value} {es:List En} {e:En} (hS:J3 w0 l w (K9 xb mb rv sl es++r)) (hat:J0r rv sl es) (hi:es[i]? =some e) (t:Int):
 J0r rv sl (es.set i ⟨e.b,t,e.key⟩)/\J3 w0 l (w.setCell ⟨e.b,0,none⟩ (.int .i64 t)) (K9 xb mb rv sl (es.set i ⟨e.b,t,e.key⟩)++r):=by
 obtain⟨hil,hen⟩:=List.getElem?_eq_some_iff.1 hi
 subst hen;have e1:es=es.take i++es[i]::es.drop (i+1):=by
  rw[<-List.drop_eq_getElem_cons hil,List.take_append_drop]
 have e2:es.set i ⟨(es[i]).b,t,(es[i]).key⟩=es.take i++⟨(es[i]).b,t,(es[i]).key⟩::es.drop (i+1):=by
  rw[List.set_eq_take_append_cons_drop,if_pos hil]
 have htl:(es.take i).length=i:=by simp;omega
 have h1:J02 0 es=J02 0 (es.take i)++((es[i]).b,J25 es[i] i)::J02 (i+1) (es.drop (i+1)):=by
  conv=>lhs;rw[e1]
  rw[J2b,htl];simp[J02]
 have h2:J02 0 (es.set i ⟨(es[i]).b,t,(es[i]).key⟩)=J02 0 (es.take i)++((es[i]).b,J25 ⟨(es[i]).b,t,(es[i]).key⟩ i)::J02 (i+1) (es.drop (i+1)):=by
  rw[e2,J2b,htl];simp[J02]
 constructor
 ·obtain⟨hsl⟩:=hat
  refine⟨?_⟩
  rw[List.length_set];have:(es.set i ⟨(es[i]).b,t,(es[i]).key⟩).map J0j=es.map J0j:=by
   apply List.ext_getElem?
   intro j
   simp only[List.getElem?_map,List.getElem?_set];by_cases hij:i=j
   ·subst hij
    rw[if_pos rfl,if_pos hil,hi];rfl
   ·rw[if_neg hij]
  rw[this];exact hsl
 ·rw[K9,h1] at hS
  have hS2:J3 w0 l w (((xb,J27 rv mb)::(sl++J02 0 (es.take i)))++((es[i]).b,J25 es[i] i)::(J02 (i+1) (es.drop (i+1))++r)):=hS.permR (List.Perm.of_eq (by simp))
  have h3:=hS2.setIn 0 (.int .i64 t);refine h3.permR (List.Perm.of_eq ?_);rw[K9,h2];simp
def Jij (l:Hp) (xb:Nat) (D:AL Int) (key:ByteArray) (t:Int) (w:World) (e:Ending) (w':World):Prop:=
 e= .returned (.int .i64 0)/\∃l',Kq l' xb (J2q D key t)/\J3 w l w' l'
theorem Jss (l:Hp) (xb:Nat) (D:AL Int) (key:ByteArray) (t:Int) (w:World) (hX:Kq l xb D) (hB:D.length<1099511627776) (ht:0<=t/\t<=4611686018427387904) (ho:Own w l):
 Calls Tryz.prog 148 #[.pointer (some ⟨xb,0,none⟩),.string key,.int .i64 t] w (Jij l xb D key t w):=by
 obtain⟨mb,o,rv,sl,es,m,rfl,hat,hm,hp,hD,hn⟩:=hX
 have hmn:(m.map Prod.fst).Nodup:=by
  have h1:(m.map Prod.fst).Perm (D.map Prod.fst):=((hp.map Prod.fst).trans (List.Perm.of_eq (Jhs es))).trans (hD.map Prod.fst).symm;exact h1.nodup_iff.2 hn
 have hlenD:=hD.length_eq;rw[List.length_map] at hlenD;have ht1:¬t<0:=by omega
 have ht2:¬4611686018427387904<t:=by omega
 clear ht;have c1:w.cell? ⟨xb,1,none⟩=some (.map (some mb)):=J2 ho.head 1;have hmb:w.heap[mb]? =some o:=ho.right.head;have hlk:=J5g (P:=Tryz.prog) (t:=101) Tryz.underlying101 Tryz.underlying9 Jby hmb hm key;rw[J0u hp hmn] at hlk;have hpost:Hid (∀w' l',Kq l' xb (J2q D key t)->J3 w (J21 xb mb rv sl es o) w' l'->Jij (J21 xb mb rv sl es o) xb D key t w (.returned (.int .i64 0)) w'):=fun w' l' h2 h3=>⟨rfl,l',h2,h3⟩
 rcases J65 es key with⟨h1,h2,h3⟩|⟨i,e,hi,hk,h1,h2⟩
 ·have hlD:Je D key=none:=by rw[J0u hD hn];exact h2
  have hlm:Je m key=none:=by rw[J0u hp hmn];exact h1
  rw[h1] at hlk;simp only[Option.getD_none,Option.isSome_none] at hlk;obtain⟨S1,_⟩:∃S:J3 w (J21 xb mb rv sl es o) (w.alloc (.cells #[.int .i64 t,.string key,.int .i64 0] 236)) ((w.heap.size,.cells #[.int .i64 t,.string key,.int .i64 0] 236)::J21 xb mb rv sl es o),True:=⟨(J3.refl ho).alloc _,trivial⟩
  have hmb1:(w.alloc (.cells #[.int .i64 t,.string key,.int .i64 0] 236)).heap[mb]? =some o:=S1.own.tail.right.head;have c1a:(w.alloc (.cells #[.int .i64 t,.string key,.int .i64 0] 236)).cell? ⟨xb,1,none⟩=some (.map (some mb)):=J2 S1.own.tail.head 1;obtain⟨o',hup,hm'⟩:=Jda (P:=Tryz.prog) (t:=101) Tryz.underlying101 Tryz.underlying9 hmb1 hm hmn key (J2y w.heap.size)
  obtain⟨w2,hw2⟩:∃w2:World,w2={(w.alloc (.cells #[.int .i64 t,.string key,.int .i64 0] 236)) with heap:=(w.alloc (.cells #[.int .i64 t,.string key,.int .i64 0] 236)).heap.setIfInBounds mb o'}:=⟨_,rfl⟩
  rw[<-hw2] at hup;have S2:J3 w (J21 xb mb rv sl es o) w2 ((w.heap.size,.cells #[.int .i64 t,.string key,.int .i64 0] 236)::(K9 xb mb rv sl es++[(mb,o')])):=by
   have h1:=(S1.permR (l2:=(mb,o)::((w.heap.size,.cells #[.int .i64 t,.string key,.int .i64 0] 236)::K9 xb mb rv sl es)) (by
    rw[J21,<-List.cons_append];exact List.perm_append_comm)).obj hw2
   exact h1.permR (by rw[<-List.cons_append];exact List.perm_append_comm (l₁:=[_]))
  have hpush:=hid (Jql S2 hat (by omega))
  have hxlt:=Jf ho.head;have hfin:Hid (∀w',Jd1 w (J21 xb mb rv sl es o) xb mb [(mb,o')] (es++[⟨w.heap.size,t,key⟩]) w'->∃l',Kq l' xb (J2q D key t)/\J3 w (J21 xb mb rv sl es o) w' l'):=by
   rintro w' ⟨rv',sl',es',hp',hat',hS'⟩;refine⟨_,⟨mb,o',rv',sl',es',_,rfl,hat',hm',?_,?_,J6j hn⟩,hS'⟩
   ·rw[J2q,hlm]
    simp only[Option.isSome_none,Bool.false_eq_true,if_false];refine(hp.append_right _).trans ?_
    refine List.Perm.trans ?_ (hp'.map Jb4).symm;exact List.Perm.of_eq (by simp[Jb4])
   ·rw[J2q,hlD]
    simp only[Option.isSome_none,Bool.false_eq_true,if_false];refine(hD.append_right _).trans ?_
    refine List.Perm.trans ?_ (hp'.map J9b).symm;exact List.Perm.of_eq (by simp[J9b])
  clear h1 h2 h3 hp hD hn hm hat ho hmn hlenD hB hlD hlm hmb1 hw2 S1 S2 hm';go_enter Tryz.func148,Tryz.ntmps148;go_wp2_with fail;refine hpush.out.mono ?_;rintro en w3 ⟨rfl,hnow⟩;obtain⟨l',hX',hS'⟩:=hfin.out _ hnow
  replace hX':=hid hX';replace hS':=hid hS';clear hnow hfin;go_wp2_with fail;go_ret;exact hpost.out _ _ hX'.out hS'.out
 ·rw[h1] at hlk
  simp only[Option.getD_some,Option.isSome_some] at hlk;have hil:=(List.getElem?_eq_some_iff.1 hi).1;have he:w.heap[e.b]? =some (J25 e i):=by
   have:=Jdy (r1:=(xb,J27 rv mb)::sl) (r2:=[(mb,o)]) (i:=i) (by simpa[J21,K9] using ho) hil
   rwa[(List.getElem?_eq_some_iff.1 hi).2] at this
  have e0:w.cell? ⟨e.b,0,none⟩=some (.int .i64 e.t):=J2 he 0;have e2:w.cell? ⟨e.b,2,none⟩=some (.int .i64 i):=J2 he 2;have f0:w.frozen? ⟨e.b,0,none⟩=false:=Jg he 0;obtain⟨hat2,S2⟩:=Jqk (r:=[(mb,o)]) (J3.refl ho) hat hi t
  have hfix:=hid (Jt9 (i:=i) S2.drew hat2 (by simpa using hil) (by simp;omega))
  have he2:(w.setCell ⟨e.b,0,none⟩ (.int .i64 t)).heap[e.b]? =some (J25 ⟨e.b,t,e.key⟩ i):=by
   have:=Jdy (r1:=(xb,J27 rv mb)::sl) (r2:=[(mb,o)]) (i:=i) (by simpa[J21,K9] using S2.own) (by simpa using hil)
   simpa using this
  have e2b:=J2 he2 2;simp only[List.getElem?_toArray,List.getElem?_cons_succ,List.getElem?_cons_zero] at e2b;have hlD:Je D key=some e.t:=by rw[J0u hD hn];exact h2
  have hfin:Hid (∀w',Jd1 w (J21 xb mb rv sl es o) xb mb [(mb,o)] (es.set i ⟨e.b,t,e.key⟩) w'->∃l',Kq l' xb (J2q D key t)/\J3 w (J21 xb mb rv sl es o) w' l'):=by
   rintro w' ⟨rv',sl',es',hp',hat',hS'⟩;subst hk;have hen:=(List.getElem?_eq_some_iff.1 hi).2;refine⟨_,⟨mb,o,rv',sl',es',m,rfl,hat',hm,?_,?_,J6j hn⟩,hS'⟩
   ·refine hp.trans (List.Perm.trans ?_ (hp'.map Jb4).symm)
    refine List.Perm.of_eq ?_;apply List.ext_getElem?
    intro j
    simp only[List.getElem?_map,List.getElem?_set];by_cases hij:i=j
    ·subst hij
     rw[if_pos rfl,if_pos hil,hi];rfl
    ·rw[if_neg hij]
   ·rw[J2q,hlD]
    simp only[Option.isSome_some,if_true];refine(Jr6 hD _ _).trans (List.Perm.trans ?_ (hp'.map J9b).symm)
    have hnk:((es.map J9b).map Prod.fst).Nodup:=(hD.map Prod.fst).nodup_iff.1 hn;rw[Jou hnk (by simpa using hil) (by simp[J9b,hen])]
    refine List.Perm.of_eq ?_;rw[List.map_set];rfl
  clear h1 h2 hp hD hn hm hat ho hi hil he hmn hlenD hB hlD hat2 S2 hk he2;go_enter Tryz.func148,Tryz.ntmps148;go_wp2_with fail;generalize w.setCell ⟨e.b,0,none⟩ (.int .i64 t)=w2 at hfix e2b⊢;go_still_tail 8,(by kernel_rfl)
  go_wp2_with fail;refine hfix.out.mono ?_;rintro en w3 ⟨rfl,hnow⟩;obtain⟨l',hX',hS'⟩:=hfin.out _ hnow
  replace hX':=hid hX';replace hS':=hid hS';clear hnow hfin;go_wp2_with fail;go_ret;exact hpost.out _ _ hX'.out hS'.out
end Go.Proofs.YtncbcaabanoeoaaGreatDoor
namespace Go.Proofs.YtncbcaabanoeoaaGreatDoor
open Go
variable {α:Type}{k:ByteArray}
structure Itm where
 kind:Int
 text:ByteArray
 fs:Fs
variable {it:Itm}
def Jc:Itm:=⟨0,ByteArray.empty,[]⟩
def K6 (fs:Fs):Nat:=(fs.map fun f=>16+f.1.size+f.2.size).sum
def J24 (key:ByteArray) (it:Itm):Nat:=
 48+key.size+if it.kind=1 then(if(J2f it.text).isSome then 8 else it.text.size) else K6 it.fs
def J0e (it:Itm):Prop:=
 (it.kind=1/\it.text.size<=4096/\it.fs=[])\/
 (it.kind=2/\it.text=ByteArray.empty/\J1z it.fs/\1<=it.fs.length/\it.fs.length<=256/\∀f∈it.fs,f.1.size<=512/\f.2.size<=4096)
def Jd (L:AL Itm):Nat:=(L.map fun p=>J24 p.1 p.2).sum
structure St where
 L:AL Itm
 D:AL Int
 ev:List (Int×ByteArray)
 bud:Nat
variable {S:St}
def St.gone (S:St) (key:ByteArray) (kind:Int):St:=if(Je S.L key).isSome then {S with L:=K3 S.L key,D:=K3 S.D key,ev:=S.ev++[(kind,key)]} else S
def St.due (S:St) (key:ByteArray) (now:Int):St:=match Je S.D key with
 |some t=>if t<=now then S.gone key 3 else S
 |none=>S
def St.touch (S:St) (key:ByteArray):St:=match Je S.L key with
 |some it=>{S with L:=K3 S.L key++[(key,it)]}
 |none=>S
def St.evict:Nat->St->ByteArray->St
 |0,S,_=>S
 |n+1,S,but=>if S.bud<Jd S.L then(if(J0q (S.L.map Prod.fst) but).2 then St.evict n (S.gone (J0q (S.L.map Prod.fst) but).1 4) but else S) else S
def St.lay (S:St) (key:ByteArray) (it:Itm) (keep:Bool):St:={S with L:=K3 S.L key++[(key,it)],D:=if keep then S.D else K3 S.D key,ev:=S.ev++[(1,key)]}
structure Fit (S:St):Prop where
 nd:(S.L.map Prod.fst).Nodup
 ends:∀k∈S.D.map Prod.fst,k∈S.L.map Prod.fst
 dnd:(S.D.map Prod.fst).Nodup
 key:∀p∈S.L,p.1.size<=512/\J0e p.2
 bud:S.bud<=1000000000000
 le:Jd S.L<=2000000000000
def Kx (S:St):Prop:=Jd S.L<=S.bud
theorem Jw5 (k:ByteArray) (it:Itm):48<=J24 k it:=by unfold J24;omega
theorem Jiy (L:AL Itm):48*L.length<=Jd L:=by
 induction L with
 |nil=>simp[Jd]
 |cons p L ih=>
  have:=Jw5 p.1 p.2
  simp only[Jd,List.map_cons,List.sum_cons,List.length_cons] at ih⊢;omega
theorem Ja6 (A B:AL Itm):Jd (A++B)=Jd A+Jd B:=by simp[Jd]
theorem J6x {A B:AL Itm} (h:A.Perm B):Jd A=Jd B:=(h.map _).sum_nat
theorem Fit.few (h:Fit S):S.L.length<=41666666667:=by
 have:=Jiy S.L;have:=h.le;omega
theorem Fit.fewD (h:Fit S):S.D.length<=S.L.length:=by
 have:(S.D.map Prod.fst).length<=(S.L.map Prod.fst).length:=List.Nodup.length_le_of_subset h.dnd h.ends
 simpa using this
theorem J0v {m:AL α} {v:α} (h:Je m k=some v):(k,v)∈m:=by
 simp only[Je,Option.map_eq_some_iff] at h;obtain⟨p,hp,rfl⟩:=h
 have h1:=List.mem_of_find?_eq_some hp;have h2:=List.find?_some hp;simp only[decide_eq_true_eq] at h2;subst h2;exact h1
theorem Jef {m:AL α} (h:Je m k=none):k∉m.map Prod.fst:=by
 intro hm
 obtain⟨p,hp,rfl⟩:=List.mem_map.1 hm
 simp only[Je,Option.map_eq_none_iff,List.find?_eq_none] at h;exact h p hp (by simp)
theorem Jr5 {m:AL α} {v:α} (hn:(m.map Prod.fst).Nodup) (h:(k,v)∈m):Je m k=some v:=by
 induction m with
 |nil=>cases h
 |cons p m ih=>
  simp only[List.map_cons,List.nodup_cons] at hn;rcases List.mem_cons.1 h with rfl|h
  ·simp[Je]
  ·have hne:p.1≠k:=fun e=>hn.1 (List.mem_map.2 ⟨_,h,e.symm⟩)
   have:=ih hn.2 h
   simp only[Je,List.find?_cons,decide_eq_false hne] at this⊢;exact this
theorem Jbd {m:AL α}:(Je m k).isSome ↔ k∈m.map Prod.fst:=by
 constructor
 ·intro h
  obtain⟨v,hv⟩:=Option.isSome_iff_exists.1 h
  exact List.mem_map.2 ⟨_,J0v hv,rfl⟩
 ·intro h
  cases hm:Je m k with
  |none=>exact absurd h (Jef hm)
  |some v=>rfl
theorem J6i {m:AL α} {p:ByteArray×α}:p∈K3 m k ↔ p∈m/\p.1≠k:=by simp[K3]
theorem J6h {m:AL α} {x:ByteArray}:x∈(K3 m k).map Prod.fst ↔ x∈m.map Prod.fst/\x≠k:=by
 simp only[List.mem_map,J6i];constructor
 ·rintro⟨p,⟨h1,h2⟩,rfl⟩;exact⟨⟨p,h1,rfl⟩,h2⟩
 ·rintro⟨⟨p,h1,rfl⟩,h2⟩;exact⟨p,⟨h1,h2⟩,rfl⟩
theorem J3i {m:AL α} {v:α} (hn:(m.map Prod.fst).Nodup) (h:Je m k=some v):m.Perm ((k,v)::K3 m k):=by
 induction m with
 |nil=>cases h
 |cons p m ih=>
  simp only[List.map_cons,List.nodup_cons] at hn;by_cases hp:p.1=k
  ·have hv:p.2=v:=by simpa[Je,hp] using h
   have hd:K3 (p::m) k=m:=by
    obtain⟨a,b⟩:=p
    simp only at hp;subst hp
    exact Jbb hn.1
   rw[hd,<-hp,<-hv]
  ·have hm:Je m k=some v:=by simpa[Je,hp] using h
   have hd:K3 (p::m) k=p::K3 m k:=by simp[K3,hp]
   rw[hd];exact((ih hn.2 hm).cons p).trans (List.Perm.swap _ _ _)
theorem Jdq {L:AL Itm} (hn:(L.map Prod.fst).Nodup) (h:Je L k=some it):Jd L=J24 k it+Jd (K3 L k):=by
 rw[J6x (J3i hn h)];simp[Jd]
theorem J47 (L:AL Itm) (k:ByteArray):Jd (K3 L k)<=Jd L:=by
 induction L with
 |nil=>simp[K3]
 |cons p L ih=>
  by_cases hp:p.1=k
  ·have:K3 (p::L) k=K3 L k:=by simp[K3,hp]
   rw[this];simp only[Jd,List.map_cons,List.sum_cons] at ih⊢;omega
  ·have:K3 (p::L) k=p::K3 L k:=by simp[K3,hp]
   rw[this];simp only[Jd,List.map_cons,List.sum_cons] at ih⊢;omega
theorem Jmt {m:AL α} (h:(m.map Prod.fst).Nodup):((K3 m k).map Prod.fst).Nodup:=J4x h
theorem J7h {m:AL α} {v:α} (h:(m.map Prod.fst).Nodup):((K3 m k++[(k,v)]).map Prod.fst).Nodup:=by
 rw[List.map_append,List.nodup_append];refine⟨J4x h,by simp,?_⟩
 intro a ha b hb e
 simp only[List.map_cons,List.map_nil,List.mem_cons,List.not_mem_nil,or_false] at hb;subst e;exact(J6h.1 ha).2 hb
theorem Fit.gone (h:Fit S) (key:ByteArray) (kind:Int):Fit (S.gone key kind):=by
 unfold St.gone;split
 ·refine⟨J4x h.nd,fun k hk=>?_,J4x h.dnd,fun p hp=>h.key p (J6i.1 hp).1,h.bud,Nat.le_trans (J47 _ _) h.le⟩
  have:=J6h.1 hk
  exact J6h.2 ⟨h.ends k this.1,this.2⟩
 ·exact h
theorem Fit.due (h:Fit S) (key:ByteArray) (now:Int):Fit (S.due key now):=by
 unfold St.due;split
 ·split
  ·exact h.gone _ _
  ·exact h
 ·exact h
theorem Fit.touch (h:Fit S) (key:ByteArray):Fit (S.touch key):=by
 unfold St.touch;split
 ·rename_i it hl
  have hp:=J3i h.nd hl;have hq:(K3 S.L key++[(key,it)]).Perm S.L:=List.perm_append_comm.trans hp.symm;exact⟨J7h h.nd,fun k hk=>((hq.map Prod.fst).mem_iff).2 (h.ends k hk),h.dnd,fun p hp=>h.key p (hq.mem_iff.1 hp),h.bud,by rw[J6x hq];exact h.le⟩
 ·exact h
theorem J7y {key:ByteArray} {kind:Int} (h:Je S.L key=some it):S.gone key kind={S with L:=K3 S.L key,D:=K3 S.D key,ev:=S.ev++[(kind,key)]}:=by simp[St.gone,h]
theorem Jom {key:ByteArray} {kind:Int} (h:Je S.L key=none):S.gone key kind=S:=by simp[St.gone,h]
theorem J6d (S:St) (key:ByteArray) (kind:Int):(S.gone key kind).bud=S.bud:=by unfold St.gone;split<;>rfl
theorem Jaa (S:St) (key:ByteArray) (now:Int):(S.due key now).bud=S.bud:=by
 unfold St.due;split
 ·split
  ·exact J6d _ _ _
  ·rfl
 ·rfl
theorem Jbs (S:St) (key:ByteArray):(S.touch key).bud=S.bud:=by unfold St.touch;split<;>rfl
theorem Jfv:∀(n:Nat) (S:St) (but:ByteArray),(S.evict n but).bud=S.bud
 |0,S,but=>rfl
 |n+1,S,but=>by
  unfold St.evict;split
  ·split
   ·rw[Jfv n,J6d]
   ·rfl
  ·rfl
theorem Jhp (S:St) (key:ByteArray) (kind:Int):(S.gone key kind).ev.length<=S.ev.length+1:=by unfold St.gone;split<;>simp
theorem Jhi (S:St) (key:ByteArray) (now:Int):(S.due key now).ev.length<=S.ev.length+1:=by
 unfold St.due;split
 ·split
  ·exact Jhp _ _ _
  ·omega
 ·omega
theorem Kx.gone (h:Kx S) (key:ByteArray) (kind:Int):Kx (S.gone key kind):=by
 unfold Kx at *;rw[J6d];unfold St.gone;split
 ·exact Nat.le_trans (J47 _ _) h
 ·exact h
theorem Kx.due (h:Kx S) (key:ByteArray) (now:Int):Kx (S.due key now):=by
 unfold St.due;split
 ·split
  ·exact h.gone _ _
  ·exact h
 ·exact h
theorem Kx.touch (hf:Fit S) (h:Kx S) (key:ByteArray):Kx (S.touch key):=by
 unfold Kx at *;rw[Jbs];unfold St.touch;split
 ·rename_i it hl
  have hq:(K3 S.L key++[(key,it)]).Perm S.L:=List.perm_append_comm.trans (J3i hf.nd hl).symm;rw[J6x hq];exact h
 ·exact h
theorem Fit.lay (h:Fit S) (ht:Kx S) {key:ByteArray} (hk:key.size<=512) (hr:J0e it) (hc:J24 key it<=S.bud) (keep:Bool):Fit (S.lay key it keep):=by
 have hb:=h.bud;have hkeys:∀x,x∈(K3 S.L key++[(key,it)]).map Prod.fst ↔ x∈S.L.map Prod.fst\/x=key:=by
  intro x
  rw[List.map_append,List.mem_append,J6h];simp only[List.map_cons,List.map_nil,List.mem_cons,List.not_mem_nil,or_false];by_cases e:x=key<;>simp[e]
 refine⟨J7h h.nd,fun k hk=>?_,?_,fun p hp=>?_,h.bud,?_⟩
 ·refine(hkeys k).2 ?_
  cases keep with
  |true=>exact .inl (h.ends k hk)
  |false=>exact .inl (h.ends k (J6h.1 hk).1)
 ·cases keep with
  |true=>exact h.dnd
  |false=>exact J4x h.dnd
 ·rcases List.mem_append.1 hp with hp|hp
  ·exact h.key p (J6i.1 hp).1
  ·simp only[List.mem_cons,List.not_mem_nil,or_false] at hp
   subst hp;exact⟨hk,hr⟩
 ·have h1:=J47 S.L key
  have h2:Jd (K3 S.L key++[(key,it)])=Jd (K3 S.L key)+J24 key it:=by rw[Ja6];simp[Jd]
  unfold Kx at ht;show Jd (K3 S.L key++[(key,it)])<=_
  omega
theorem Jcg {ks:List ByteArray} {but:ByteArray} (h:(J0q ks but).2=true) (hn:ks.Nodup):(J0q ks but).1∈ks/\(J0q ks but).1≠but:=by
 unfold J0q at h⊢;match ks,hn with
 |[],_=>simp at h
 |[k],_=>
  by_cases hk:k=but
  ·simp[hk] at h
  ·simp[hk]
 |k::k2::r,hn=>
  by_cases hk:k=but
  ·subst hk
   simp only[List.nodup_cons,List.mem_cons,not_or] at hn;simp only[if_true];exact⟨by simp,fun e=>hn.1.1 e.symm⟩
  ·simp[hk]
theorem Jk6 {ks:List ByteArray} {but:ByteArray} (h:(J0q ks but).2=false):ks=[]\/ks=[but]:=by
 unfold J0q at h;match ks with
 |[]=>exact .inl rfl
 |[k]=>
  by_cases hk:k=but
  ·exact .inr (by rw[hk])
  ·simp[hk] at h
 |k::k2::r=>
  by_cases hk:k=but<;>simp[hk] at h
theorem Jmv {m:AL α} {x:ByteArray} (h:x≠k):Je (K3 m k) x=Je m x:=by
 induction m with
 |nil=>rfl
 |cons p m ih=>
  simp only[Je,K3,List.filter_cons] at ih⊢;by_cases hp:p.1=k
  ·have hx:¬p.1=x:=fun e=>h (e.symm.trans hp)
   simp only[hp,ne_eq,not_true,decide_false,Bool.false_eq_true,if_false];rw[ih,List.find?_cons];simp[hx]
  ·simp only[ne_eq,hp,not_false_eq_true,decide_true,if_true,List.find?_cons]
   by_cases hx:p.1=x
   ·simp[hx]
   ·simp only[hx,decide_false];exact ih
theorem Jct {m:AL α}:Je (K3 m k) k=none:=by
 cases h:Je (K3 m k) k with
 |none=>rfl
 |some v=>exact absurd rfl (J6i.1 (J0v h)).2
theorem Jjf:∀(n:Nat) (S:St) (but:ByteArray),Fit S->S.L.length<=n->(∃it,Je S.L but=some it/\J24 but it<=S.bud)->Fit (S.evict n but)/\Kx (S.evict n but)/\Je (S.evict n but).L but=Je S.L but/\(S.evict n but).ev.length<=S.ev.length+S.L.length
 |0,S,but,hf,hn,⟨it,h,_⟩=>by
  have hl:S.L=[]:=List.length_eq_zero_iff.1 (Nat.le_zero.1 hn);rw[hl] at h;cases h
 |n+1,S,but,hf,hn,⟨it,h,hc⟩=>by
  unfold St.evict;split
  ·rename_i hb
   split
   ·rename_i ho
    obtain⟨hm,hne⟩:=Jcg ho hf.nd
    obtain⟨jt,hj⟩:=Option.isSome_iff_exists.1 (Jbd.2 hm)
    have hg:=J7y (kind:=4) hj;have hl2:Je (S.gone (J0q (S.L.map Prod.fst) but).1 4).L but=Je S.L but:=by rw[hg];exact Jmv (Ne.symm hne)
    have hlen:(S.gone (J0q (S.L.map Prod.fst) but).1 4).L.length+1=S.L.length:=by
     rw[hg];have:=(J3i hf.nd hj).length_eq
     simpa using this.symm
    have hev:=Jhp S (J0q (S.L.map Prod.fst) but).1 4;have ih:=Jjf n _ but (hf.gone (J0q (S.L.map Prod.fst) but).1 4) (by omega) ⟨it,by rw[hl2];exact h,by rw[J6d];exact hc⟩
    exact⟨ih.1,ih.2.1,by rw[ih.2.2.1,hl2],by have:=ih.2.2.2;omega⟩
   ·rename_i ho
    rcases Jk6 (by simpa using ho) with hz|hz
    ·rw[List.map_eq_nil_iff] at hz
     rw[hz] at h;cases h
    ·exfalso
     obtain⟨p,hp,hpe⟩:∃p,S.L=[p]/\p.1=but:=by
      cases hL:S.L with
      |nil=>rw[hL] at hz;cases hz
      |cons p r=>
       rw[hL] at hz;simp only[List.map_cons,List.cons.injEq,List.map_eq_nil_iff] at hz;obtain⟨hz1,rfl⟩:=hz
       exact⟨p,rfl,hz1⟩
     have:=J0v h
     rw[hp] at this hb;simp only[List.mem_cons,List.not_mem_nil,or_false] at this;subst this;simp[Jd] at hb;omega
  ·rename_i hb
   exact⟨hf,by unfold Kx;omega,rfl,by omega⟩
end Go.Proofs.YtncbcaabanoeoaaGreatDoor
namespace Go.Proofs.YtncbcaabanoeoaaGreatDoor
open Go Go.RowKit
def Jzp (h:Int) (b:UInt8):Int:=IntKind.u64.wrap (bits BinOp.xor IntKind.u64 h (IntKind.u64.wrap b.toNat)*1099511628211)
def hsh (l:List UInt8):Int:=l.foldl Jzp 14695981039346656037
theorem Jyl (l:List UInt8):0<=hsh l/\hsh l<18446744073709551616:=by
 have hw:∀x:Int,0<=IntKind.u64.wrap x/\IntKind.u64.wrap x<18446744073709551616:=by
  intro x;rw[IntKind.wrap_u64];omega
 rcases List.eq_nil_or_concat l with rfl|⟨l',b,rfl⟩
 ·exact⟨by decide,by decide⟩
 ·simp only[List.concat_eq_append,hsh,List.foldl_append,List.foldl_cons,List.foldl_nil]
  exact hw _
def Js (k:ByteArray):Nat:=(hsh k.data.toList).toNat
theorem Jtc (s:ByteArray) (k:Nat) (h:k<s.size):hsh (s.data.toList.take (k+1))=IntKind.u64.wrap (bits BinOp.xor IntKind.u64 (hsh (s.data.toList.take k)) (IntKind.u64.wrap s[k].toNat)*1099511628211):=by
 have:s.data.toList.take (k+1)=s.data.toList.take k++[s[k]]:=by
  rw[List.take_succ_eq_append_getElem (by simpa using h)];rfl
 rw[this,hsh,List.foldl_append];rfl
theorem Jt8 (s:ByteArray) (w:World) (hs:s.size<=maxLen):
 Calls Tryz.prog 209 #[.string s] w fun e w'=>e= .returned (.int .u64 (Js s:Nat))/\w=w':=by
 have hs':s.size<=9223372036854775807:=by unfold maxLen at hs;omega
 clear hs;have hfin:((Js s:Nat):Int)=hsh s.data.toList:=Int.toNat_of_nonneg (Jyl _).1;have Hf:=hid hfin;clear hfin;go_enter Tryz.func209,Tryz.ntmps209;go_wp2
 go_loop [3,7] (fun h i=>∃k:Nat,k<=s.size/\i= .int .i64 k/\h= .int .u64 (hsh (s.data.toList.take k))) (fun _ i=>s.size - (intOf i).toNat)
 case atStart=>exact⟨0,Nat.zero_le _,rfl,rfl⟩
 case round=>
  obtain⟨k,hk,rfl,rfl⟩:=hrel
  by_cases hlt:k<s.size
  ·have hsn:=hid (Jtc s k hlt)
   go_wp2
   go_round
   case rel=>exact⟨k+1,by omega,by go_num,by rw[hsn.out]⟩
   case measure=>simp[intOf];omega
  ·obtain rfl:k=s.size:=by omega
   go_wp2
   go_ret;refine⟨?_,rfl⟩
   rw[Hf.out,List.take_of_length_le (by simp)];rfl
end Go.Proofs.YtncbcaabanoeoaaGreatDoor
