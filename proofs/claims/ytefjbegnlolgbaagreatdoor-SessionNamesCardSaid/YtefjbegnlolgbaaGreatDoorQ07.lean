/-
expiry: New, Get, Drop, Put, by which keys end when.
-/
import Derived.Test.YtefjbegnlolgbaaGreatDoorQ05
import Derived.Test.YtefjbegnlolgbaaGreatDoorQ06
set_option linter.unusedVariables false
set_option linter.unusedSimpArgs false
set_option maxRecDepth 100000
set_option maxHeartbeats 8000000
namespace Go.Proofs.YtefjbegnlolgbaaGreatDoor
open Go Go.RowKit
variable {α:Type}
def J1o (xb mb:Nat) (rv:Value) (sl:Hp) (es:List En) (o:Obj):Hp:=Jp xb mb rv sl es++[(mb,o)]
def J70 (e:En):ByteArray×Value:=(e.key,J1i e.b)
def J5n (e:En):ByteArray×Int:=(e.key,e.t)
def K1 (l:Hp) (xb:Nat) (D:AL Int):Prop:=
 ∃mb o rv sl es m,l=J1o xb mb rv sl es o/\Ky rv sl es/\Kz o m/\m.Perm (es.map J70)/\D.Perm (es.map J5n)/\(D.map Prod.fst).Nodup
theorem Jbp (es:List En):(es.map J70).map Prod.fst=(es.map J5n).map Prod.fst:=by simp[J70,J5n,Function.comp_def]
theorem J7h (w:World):(zeroValue 331).run Tryz.prog w= .ok (.pointer none) w:=by kernel_rfl
theorem J3k (es:List En) (key:ByteArray):(J7 (es.map J70) key=none/\J7 (es.map J5n) key=none/\∀e∈es,e.key≠key)\/∃(i:Nat) (e:En),es[i]? =some e/\e.key=key/\J7 (es.map J70) key=some (J1i e.b)/\J7 (es.map J5n) key=some e.t:=by
 induction es with
 |nil=>exact .inl ⟨rfl,rfl,by simp⟩
 |cons q es ih=>
  by_cases hq:q.key=key
  ·refine .inr ⟨0,q,rfl,hq,?_,?_⟩
   ·simp[J7,J70,hq]
   ·simp[J7,J5n,hq]
  ·rcases ih with⟨h1,h2,h3⟩|⟨i,e,h1,h2,h3,h4⟩
   ·refine .inl ⟨?_,?_,?_⟩
    ·simpa[J7,J70,hq] using h1
    ·simpa[J7,J5n,hq] using h2
    ·intro e he
     rcases List.mem_cons.1 he with rfl|he
     ·exact hq
     ·exact h3 e he
   ·refine .inr ⟨i+1,e,by simpa using h1,h2,?_,?_⟩
    ·simpa[J7,J70,hq] using h3
    ·simpa[J7,J5n,hq] using h4
theorem Jan {m m':AL α} (h:m.Perm m') (k:ByteArray):(Jk m k).Perm (Jk m' k):=h.filter _
theorem J73 {m:AL α} {k:ByteArray} {v:α} (h:k∉m.map Prod.fst):Jk ((k,v)::m) k=m:=by
 simp only[Jk,List.filter_cons];simp only[ne_eq,not_true,decide_false,Bool.false_eq_true,if_false];rw[List.filter_eq_self];intro p hp
 have:p.1≠k:=fun e=>h (List.mem_map.2 ⟨p,hp,e⟩)
 simpa using this
def J8q (D:AL Int) (key:ByteArray) (w:World) (e:Ending) (w':World):Prop:=
 e= .returned (.tuple #[.int .i64 ((J7 D key).getD 0),.bool (J7 D key).isSome])/\w=w'
theorem Jd2 (l:Hp) (xb:Nat) (D:AL Int) (key:ByteArray) (w:World) (hX:K1 l xb D) (ho:Own w l):
 Calls Tryz.prog 172 #[.pointer (some ⟨xb,0,none⟩),.string key] w (J8q D key w):=by
 obtain⟨mb,o,rv,sl,es,m,rfl,hat,hm,hp,hD,hn⟩:=hX
 have hmn:(m.map Prod.fst).Nodup:=by
  have h1:(m.map Prod.fst).Perm (D.map Prod.fst):=((hp.map Prod.fst).trans (List.Perm.of_eq (Jbp es))).trans (hD.map Prod.fst).symm;exact h1.nodup_iff.2 hn
 have c1:w.cell? ⟨xb,1,none⟩=some (.map (some mb)):=J0 ho.head 1;have hmb:w.heap[mb]? =some o:=ho.right.head;have hlk:=J39 (P:=Tryz.prog) (t:=111) Tryz.underlying111 Tryz.underlying9 J7h hmb hm key;rw[J01 hp hmn] at hlk;have hpost:Hid (∀n is,(J7 D key).getD 0=n->(J7 D key).isSome=is->J8q D key w (.returned (.tuple #[.int .i64 n,.bool is])) w):=fun n is h1 h2=>by subst h1 h2;exact⟨rfl,rfl⟩
 rw[J01 hD hn] at hpost;rcases J3k es key with⟨h1,h2,h3⟩|⟨i,e,hi,hk,h1,h2⟩
 ·rw[h1] at hlk
  rw[h2] at hpost;simp only[Option.getD_none,Option.isSome_none] at hlk;clear h1 h2 h3 hp hD hn hm hat ho;go_enter Tryz.func172,Tryz.ntmps172;go_wp2_with fail;go_ret2;exact hpost.out 0 false rfl rfl
 ·rw[h1] at hlk
  rw[h2] at hpost;simp only[Option.getD_some,Option.isSome_some] at hlk;have hil:=(List.getElem?_eq_some_iff.1 hi).1
  have he:w.heap[e.b]? =some (J0y e i):=by
   have:=J90 (r1:=(xb,J1y rv mb)::sl) (r2:=[(mb,o)]) (i:=i) (by simpa[J1o,Jp] using ho) hil
   rwa[(List.getElem?_eq_some_iff.1 hi).2] at this
  have e0:w.cell? ⟨e.b,0,none⟩=some (.int .i64 e.t):=J0 he 0;clear h1 h2 hp hD hn hm hat ho hi hil he;go_enter Tryz.func172,Tryz.ntmps172;go_wp2_with fail;go_ret2;exact hpost.out e.t true rfl rfl
theorem Ji4 (w:World):Calls Tryz.prog 28 #[] w fun e w'=>∃xb l',e= .returned (.pointer (some ⟨xb,0,none⟩))/\K1 l' xb []/\J1 w [] w' l':=by
 have hmm:=@run_makeMap Tryz.prog;go_enter Tryz.func28,Tryz.ntmps28;go_wp2_with fail;go_ret;have S1:=((J1.refl (Own.nil w)).alloc (.map #[] 0)).alloc (J1y (.slice none 0 0) w.heap.size);refine⟨w.heap.size+1,J1o (w.heap.size+1) w.heap.size (.slice none 0 0) [] [] (.map #[] 0),rfl,⟨_,_,_,_,[],[],rfl,⟨.nil⟩,Kz.empty,List.Perm.refl _,List.Perm.refl _,by simp⟩,?_⟩
 have e:(w.alloc (.map #[] 0)).heap.size=w.heap.size+1:=by simp
 rw[e] at S1;exact S1
def Ja6 (l:Hp) (xb:Nat) (D:AL Int) (key:ByteArray) (w:World) (e:Ending) (w':World):Prop:=
 e= .returned (.bool (J7 D key).isSome)/\∃l',K1 l' xb (Jk D key)/\J1 w l w' l'
theorem Jkg {w0:World} {l:Hp} {xb mb:Nat} {r:Hp} {es:List En} {x:En} {e:Ending} {w':World} (h:J3x w0 l xb mb r es x e w'):
 ∃rv' sl' es',e= .returned (.iface 331 (J1i x.b))/\(es'++[x]).Perm es/\Ky rv' sl' es'/\J1 w0 l w' (Jp xb mb rv' sl' es'++r):=by
 obtain⟨h1,rv',sl',es',h2,h3,h4⟩:=h
 exact⟨rv',sl',es',h1,h2,h3,h4.less (List.sublist_cons_self _ _)⟩
theorem Jaf (l:Hp) (xb:Nat) (D:AL Int) (key:ByteArray) (w:World) (hX:K1 l xb D) (hB:D.length<=1099511627776) (ho:Own w l):
 Calls Tryz.prog 170 #[.pointer (some ⟨xb,0,none⟩),.string key] w (Ja6 l xb D key w):=by
 obtain⟨mb,o,rv,sl,es,m,rfl,hat,hm,hp,hD,hn⟩:=hX
 have hmn:(m.map Prod.fst).Nodup:=by
  have h1:(m.map Prod.fst).Perm (D.map Prod.fst):=((hp.map Prod.fst).trans (List.Perm.of_eq (Jbp es))).trans (hD.map Prod.fst).symm;exact h1.nodup_iff.2 hn
 have hlenD:=hD.length_eq;rw[List.length_map] at hlenD;have c1:w.cell? ⟨xb,1,none⟩=some (.map (some mb)):=J0 ho.head 1;have hmb:w.heap[mb]? =some o:=ho.right.head;have hlk:=J39 (P:=Tryz.prog) (t:=111) Tryz.underlying111 Tryz.underlying9 J7h hmb hm key;rw[J01 hp hmn] at hlk;have hpost:Hid (∀is w' l',(J7 D key).isSome=is->K1 l' xb (Jk D key)->J1 w (J1o xb mb rv sl es o) w' l'->Ja6 (J1o xb mb rv sl es o) xb D key w (.returned (.bool is)) w'):=fun is w' l' h1 h2 h3=>by subst h1;exact⟨rfl,l',h2,h3⟩
 rw[J01 hD hn] at hpost;rcases J3k es key with⟨h1,h2,h3⟩|⟨i,e,hi,hk,h1,h2⟩
 ·rw[h1] at hlk
  rw[h2] at hpost;simp only[Option.getD_none,Option.isSome_none] at hlk;have hdel:Jk D key=D:=J74 (by rw[J01 hD hn];exact h2)
  have hfin:=hid (show K1 (J1o xb mb rv sl es o) xb (Jk D key) by rw[hdel];exact⟨mb,o,rv,sl,es,m,rfl,hat,hm,hp,hD,hn⟩)
  have hst:=hid (J1.refl ho);clear h1 h2 h3 hp hD hn hm hat ho hmn hdel hlenD hB;go_enter Tryz.func170,Tryz.ntmps170;go_wp2_with fail;go_ret;exact hpost.out false _ _ rfl hfin.out hst.out
 ·rw[h1] at hlk
  rw[h2] at hpost;simp only[Option.getD_some,Option.isSome_some] at hlk;have hil:=(List.getElem?_eq_some_iff.1 hi).1
  have he:w.heap[e.b]? =some (J0y e i):=by
   have:=J90 (r1:=(xb,J1y rv mb)::sl) (r2:=[(mb,o)]) (i:=i) (by simpa[J1o,Jp] using ho) hil
   rwa[(List.getElem?_eq_some_iff.1 hi).2] at this
  have e2:w.cell? ⟨e.b,2,none⟩=some (.int .i64 i):=J0 he 2;have hrem:=hid (Jda (J1.refl ho).drew hat hi (by omega))
  have hm':=hid hm;have hp':=hid hp;have hD':=hid hD;have hn':=hid hn;have hmn':=hid hmn;replace hk:=hid hk;clear h1 h2 hp hD hn hm hat ho hi hil he hmn hlenD hB;go_enter Tryz.func170,Tryz.ntmps170;go_wp2_with fail;go_still_tail 8,(by kernel_rfl)
  go_wp2_with fail;refine hrem.out.mono ?_;intro en w2 hR
  obtain⟨rv2,sl2,es2,rfl,hp2,hat2,S2⟩:=Jkg hR
  have c1b:w2.cell? ⟨xb,1,none⟩=some (.map (some mb)):=J0 S2.own.head 1;obtain⟨o',hdel,hm2⟩:=J8k (P:=Tryz.prog) (t:=111) Tryz.underlying111 Tryz.underlying9 0 S2.own.right.head hm'.out hmn'.out key 9
  obtain⟨w3,hw3⟩:∃w3:World,w3={w2 with heap:=w2.heap.setIfInBounds mb o'}:=⟨_,rfl⟩
  rw[<-hw3] at hdel
  have S3:J1 w (J1o xb mb rv sl es o) w3 (J1o xb mb rv2 sl2 es2 o'):=
   ((S2.permR (l2:=(mb,o)::Jp xb mb rv2 sl2 es2) List.perm_append_comm).obj hw3).permR (List.perm_append_comm (l₁:=[_]))
  have hfin:Hid (K1 (J1o xb mb rv2 sl2 es2 o') xb (Jk D key)):=by
   have hke:key=e.key:=hk.out.symm;subst hke;have hq:(e::es2).Perm es:=(List.perm_append_comm (l₁:=[e]) (l₂:=es2)).trans hp2
   have hnd:((e::es2).map En.key).Nodup:=by
    have h1:(D.map Prod.fst).Perm ((e::es2).map En.key):=(hD'.out.map Prod.fst).trans ((List.Perm.of_eq (by simp[J5n,Function.comp_def])).trans (hq.map En.key).symm)
    exact h1.nodup_iff.1 hn'.out
   simp only[List.map_cons,List.nodup_cons] at hnd;refine⟨mb,o',rv2,sl2,es2,_,rfl,hat2,hm2,?_,?_,J2y hn'.out⟩
   ·have h1:=Jan (hp'.out.trans (hq.map J70).symm) e.key
    rw[List.map_cons] at h1;refine h1.trans (List.Perm.of_eq (J73 ?_));simpa[J70,Function.comp_def] using hnd.1
   ·have h1:=Jan (hD'.out.trans (hq.map J5n).symm) e.key
    rw[List.map_cons] at h1;refine h1.trans (List.Perm.of_eq (J73 ?_));simpa[J5n,Function.comp_def] using hnd.1
  replace S3:=hid S3;clear hlk hw3 hm2 S2 hR hp2 hat2;go_wp2_with fail;go_ret;exact hpost.out true _ _ rfl hfin.out S3.out
theorem Jgn {m m':AL α} (h:m.Perm m') (k:ByteArray) (v:α):(Jbs m k v).Perm (Jbs m' k v):=h.map _
theorem Jgg {w0 w:World} {l r sl:Hp} {xb mb i:Nat} {rv:Value} {es:List En} {e:En} (hS:J1 w0 l w (Jp xb mb rv sl es++r)) (hat:Ky rv sl es) (hi:es[i]? =some e) (t:Int):
 Ky rv sl (es.set i ⟨e.b,t,e.key⟩)/\J1 w0 l (w.setCell ⟨e.b,0,none⟩ (.int .i64 t)) (Jp xb mb rv sl (es.set i ⟨e.b,t,e.key⟩)++r):=by
 obtain⟨hil,hen⟩:=List.getElem?_eq_some_iff.1 hi
 subst hen
 have e1:es=es.take i++es[i]::es.drop (i+1):=by
  rw[<-List.drop_eq_getElem_cons hil,List.take_append_drop]
 have e2:es.set i ⟨(es[i]).b,t,(es[i]).key⟩=es.take i++⟨(es[i]).b,t,(es[i]).key⟩::es.drop (i+1):=by
  rw[List.set_eq_take_append_cons_drop,if_pos hil]
 have htl:(es.take i).length=i:=by simp;omega
 have h1:K7 0 es=K7 0 (es.take i)++((es[i]).b,J0y es[i] i)::K7 (i+1) (es.drop (i+1)):=by
  conv=>lhs;rw[e1]
  rw[J15,htl];simp[K7]
 have h2:K7 0 (es.set i ⟨(es[i]).b,t,(es[i]).key⟩)=K7 0 (es.take i)++((es[i]).b,J0y ⟨(es[i]).b,t,(es[i]).key⟩ i)::K7 (i+1) (es.drop (i+1)):=by
  rw[e2,J15,htl];simp[K7]
 constructor
 ·obtain⟨hsl⟩:=hat
  refine⟨?_⟩
  rw[List.length_set]
  have:(es.set i ⟨(es[i]).b,t,(es[i]).key⟩).map Kp=es.map Kp:=by
   apply List.ext_getElem?
   intro j
   simp only[List.getElem?_map,List.getElem?_set];by_cases hij:i=j
   ·subst hij
    rw[if_pos rfl,if_pos hil,hi];rfl
   ·rw[if_neg hij]
  rw[this];exact hsl
 ·rw[Jp,h1] at hS
  have hS2:J1 w0 l w (((xb,J1y rv mb)::(sl++K7 0 (es.take i)))++((es[i]).b,J0y es[i] i)::(K7 (i+1) (es.drop (i+1))++r)):=hS.permR (List.Perm.of_eq (by simp))
  have h3:=hS2.setIn 0 (.int .i64 t);refine h3.permR (List.Perm.of_eq ?_);rw[Jp,h2];simp
def Jce (l:Hp) (xb:Nat) (D:AL Int) (key:ByteArray) (t:Int) (w:World) (e:Ending) (w':World):Prop:=
 e= .returned (.int .i64 0)/\∃l',K1 l' xb (J22 D key t)/\J1 w l w' l'
theorem Ji5 (l:Hp) (xb:Nat) (D:AL Int) (key:ByteArray) (t:Int) (w:World) (hX:K1 l xb D) (hB:D.length<1099511627776) (ht:0<=t/\t<=4611686018427387904) (ho:Own w l):
 Calls Tryz.prog 223 #[.pointer (some ⟨xb,0,none⟩),.string key,.int .i64 t] w (Jce l xb D key t w):=by
 obtain⟨mb,o,rv,sl,es,m,rfl,hat,hm,hp,hD,hn⟩:=hX
 have hmn:(m.map Prod.fst).Nodup:=by
  have h1:(m.map Prod.fst).Perm (D.map Prod.fst):=((hp.map Prod.fst).trans (List.Perm.of_eq (Jbp es))).trans (hD.map Prod.fst).symm;exact h1.nodup_iff.2 hn
 have hlenD:=hD.length_eq;rw[List.length_map] at hlenD;have ht1:¬t<0:=by omega
 have ht2:¬4611686018427387904<t:=by omega
 clear ht;have c1:w.cell? ⟨xb,1,none⟩=some (.map (some mb)):=J0 ho.head 1;have hmb:w.heap[mb]? =some o:=ho.right.head;have hlk:=J39 (P:=Tryz.prog) (t:=111) Tryz.underlying111 Tryz.underlying9 J7h hmb hm key;rw[J01 hp hmn] at hlk;have hpost:Hid (∀w' l',K1 l' xb (J22 D key t)->J1 w (J1o xb mb rv sl es o) w' l'->Jce (J1o xb mb rv sl es o) xb D key t w (.returned (.int .i64 0)) w'):=fun w' l' h2 h3=>⟨rfl,l',h2,h3⟩
 rcases J3k es key with⟨h1,h2,h3⟩|⟨i,e,hi,hk,h1,h2⟩
 ·have hlD:J7 D key=none:=by rw[J01 hD hn];exact h2
  have hlm:J7 m key=none:=by rw[J01 hp hmn];exact h1
  rw[h1] at hlk;simp only[Option.getD_none,Option.isSome_none] at hlk;obtain⟨S1,_⟩:∃S:J1 w (J1o xb mb rv sl es o) (w.alloc (.cells #[.int .i64 t,.string key,.int .i64 0] 338)) ((w.heap.size,.cells #[.int .i64 t,.string key,.int .i64 0] 338)::J1o xb mb rv sl es o),True:=⟨(J1.refl ho).alloc _,trivial⟩
  have hmb1:(w.alloc (.cells #[.int .i64 t,.string key,.int .i64 0] 338)).heap[mb]? =some o:=S1.own.tail.right.head;have c1a:(w.alloc (.cells #[.int .i64 t,.string key,.int .i64 0] 338)).cell? ⟨xb,1,none⟩=some (.map (some mb)):=J0 S1.own.tail.head 1;obtain⟨o',hup,hm'⟩:=J6n (P:=Tryz.prog) (t:=111) Tryz.underlying111 Tryz.underlying9 hmb1 hm hmn key (J1i w.heap.size)
  obtain⟨w2,hw2⟩:∃w2:World,w2={(w.alloc (.cells #[.int .i64 t,.string key,.int .i64 0] 338)) with heap:=(w.alloc (.cells #[.int .i64 t,.string key,.int .i64 0] 338)).heap.setIfInBounds mb o'}:=⟨_,rfl⟩
  rw[<-hw2] at hup
  have S2:J1 w (J1o xb mb rv sl es o) w2 ((w.heap.size,.cells #[.int .i64 t,.string key,.int .i64 0] 338)::(Jp xb mb rv sl es++[(mb,o')])):=by
   have h1:=(S1.permR (l2:=(mb,o)::((w.heap.size,.cells #[.int .i64 t,.string key,.int .i64 0] 338)::Jp xb mb rv sl es)) (by
    rw[J1o,<-List.cons_append];exact List.perm_append_comm)).obj hw2
   exact h1.permR (by rw[<-List.cons_append];exact List.perm_append_comm (l₁:=[_]))
  have hpush:=hid (Jgh S2 hat (by omega))
  have hxlt:=Jc ho.head
  have hfin:Hid (∀w',J8d w (J1o xb mb rv sl es o) xb mb [(mb,o')] (es++[⟨w.heap.size,t,key⟩]) w'->∃l',K1 l' xb (J22 D key t)/\J1 w (J1o xb mb rv sl es o) w' l'):=by
   rintro w' ⟨rv',sl',es',hp',hat',hS'⟩;refine⟨_,⟨mb,o',rv',sl',es',_,rfl,hat',hm',?_,?_,J5h hn⟩,hS'⟩
   ·rw[J22,hlm]
    simp only[Option.isSome_none,Bool.false_eq_true,if_false];refine(hp.append_right _).trans ?_
    refine List.Perm.trans ?_ (hp'.map J70).symm;exact List.Perm.of_eq (by simp[J70])
   ·rw[J22,hlD]
    simp only[Option.isSome_none,Bool.false_eq_true,if_false];refine(hD.append_right _).trans ?_
    refine List.Perm.trans ?_ (hp'.map J5n).symm;exact List.Perm.of_eq (by simp[J5n])
  clear h1 h2 h3 hp hD hn hm hat ho hmn hlenD hB hlD hlm hmb1 hw2 S1 S2 hm';go_enter Tryz.func223,Tryz.ntmps223;go_wp2_with fail;refine hpush.out.mono ?_;rintro en w3 ⟨rfl,hnow⟩;obtain⟨l',hX',hS'⟩:=hfin.out _ hnow
  replace hX':=hid hX';replace hS':=hid hS';clear hnow hfin;go_wp2_with fail;go_ret;exact hpost.out _ _ hX'.out hS'.out
 ·rw[h1] at hlk
  simp only[Option.getD_some,Option.isSome_some] at hlk;have hil:=(List.getElem?_eq_some_iff.1 hi).1
  have he:w.heap[e.b]? =some (J0y e i):=by
   have:=J90 (r1:=(xb,J1y rv mb)::sl) (r2:=[(mb,o)]) (i:=i) (by simpa[J1o,Jp] using ho) hil
   rwa[(List.getElem?_eq_some_iff.1 hi).2] at this
  have e0:w.cell? ⟨e.b,0,none⟩=some (.int .i64 e.t):=J0 he 0;have e2:w.cell? ⟨e.b,2,none⟩=some (.int .i64 i):=J0 he 2;have f0:w.frozen? ⟨e.b,0,none⟩=false:=J6 he 0;obtain⟨hat2,S2⟩:=Jgg (r:=[(mb,o)]) (J1.refl ho) hat hi t
  have hfix:=hid (Jic (i:=i) S2.drew hat2 (by simpa using hil) (by simp;omega))
  have he2:(w.setCell ⟨e.b,0,none⟩ (.int .i64 t)).heap[e.b]? =some (J0y ⟨e.b,t,e.key⟩ i):=by
   have:=J90 (r1:=(xb,J1y rv mb)::sl) (r2:=[(mb,o)]) (i:=i) (by simpa[J1o,Jp] using S2.own) (by simpa using hil)
   simpa using this
  have e2b:=J0 he2 2;simp only[List.getElem?_toArray,List.getElem?_cons_succ,List.getElem?_cons_zero] at e2b;have hlD:J7 D key=some e.t:=by rw[J01 hD hn];exact h2
  have hfin:Hid (∀w',J8d w (J1o xb mb rv sl es o) xb mb [(mb,o)] (es.set i ⟨e.b,t,e.key⟩) w'->∃l',K1 l' xb (J22 D key t)/\J1 w (J1o xb mb rv sl es o) w' l'):=by
   rintro w' ⟨rv',sl',es',hp',hat',hS'⟩;subst hk;have hen:=(List.getElem?_eq_some_iff.1 hi).2;refine⟨_,⟨mb,o,rv',sl',es',m,rfl,hat',hm,?_,?_,J5h hn⟩,hS'⟩
   ·refine hp.trans (List.Perm.trans ?_ (hp'.map J70).symm)
    refine List.Perm.of_eq ?_;apply List.ext_getElem?
    intro j
    simp only[List.getElem?_map,List.getElem?_set];by_cases hij:i=j
    ·subst hij
     rw[if_pos rfl,if_pos hil,hi];rfl
    ·rw[if_neg hij]
   ·rw[J22,hlD]
    simp only[Option.isSome_some,if_true];refine(Jgn hD _ _).trans (List.Perm.trans ?_ (hp'.map J5n).symm)
    have hnk:((es.map J5n).map Prod.fst).Nodup:=(hD.map Prod.fst).nodup_iff.1 hn;rw[Jfo hnk (by simpa using hil) (by simp[J5n,hen])]
    refine List.Perm.of_eq ?_;rw[List.map_set];rfl
  clear h1 h2 hp hD hn hm hat ho hi hil he hmn hlenD hB hlD hat2 S2 hk he2;go_enter Tryz.func223,Tryz.ntmps223;go_wp2_with fail;generalize w.setCell ⟨e.b,0,none⟩ (.int .i64 t)=w2 at hfix e2b⊢;go_still_tail 8,(by kernel_rfl)
  go_wp2_with fail;refine hfix.out.mono ?_;rintro en w3 ⟨rfl,hnow⟩;obtain⟨l',hX',hS'⟩:=hfin.out _ hnow
  replace hX':=hid hX';replace hS':=hid hS';clear hnow hfin;go_wp2_with fail;go_ret;exact hpost.out _ _ hX'.out hS'.out
end Go.Proofs.YtefjbegnlolgbaaGreatDoor
namespace Go.Proofs.YtefjbegnlolgbaaGreatDoor
open Go
variable {α:Type}{k:ByteArray}
structure Itm where
 kind:Int
 text:ByteArray
 fs:Fs
variable {it:Itm}
def Jt:Itm:=⟨0,ByteArray.empty,[]⟩
def Jm (fs:Fs):Nat:=(fs.map fun f=>16+f.1.size+f.2.size).sum
def J0r (key:ByteArray) (it:Itm):Nat:=
 48+key.size+if it.kind=1 then(if(J2n it.text).isSome then 8 else it.text.size) else Jm it.fs
def J1c (it:Itm):Prop:=
 (it.kind=1/\it.text.size<=4096/\it.fs=[])\/
 (it.kind=2/\it.text=ByteArray.empty/\Jg1 it.fs/\1<=it.fs.length/\it.fs.length<=256/\∀f∈it.fs,f.1.size<=512/\f.2.size<=4096)
def J4 (L:AL Itm):Nat:=(L.map fun p=>J0r p.1 p.2).sum
structure St where
 L:AL Itm
 D:AL Int
 ev:List (Int×ByteArray)
 bud:Nat
variable {S:St}
def St.gone (S:St) (key:ByteArray) (kind:Int):St:=if(J7 S.L key).isSome then {S with L:=Jk S.L key,D:=Jk S.D key,ev:=S.ev++[(kind,key)]} else S
def St.due (S:St) (key:ByteArray) (now:Int):St:=match J7 S.D key with
 |some t=>if t<=now then S.gone key 3 else S
 |none=>S
def St.touch (S:St) (key:ByteArray):St:=match J7 S.L key with
 |some it=>{S with L:=Jk S.L key++[(key,it)]}
 |none=>S
def St.evict:Nat->St->ByteArray->St
 |0,S,_=>S
 |n+1,S,but=>if S.bud<J4 S.L then(if(Kx (S.L.map Prod.fst) but).2 then St.evict n (S.gone (Kx (S.L.map Prod.fst) but).1 4) but else S) else S
def St.lay (S:St) (key:ByteArray) (it:Itm) (keep:Bool):St:={S with L:=Jk S.L key++[(key,it)],D:=if keep then S.D else Jk S.D key,ev:=S.ev++[(1,key)]}
structure Fit (S:St):Prop where
 nd:(S.L.map Prod.fst).Nodup
 ends:∀k∈S.D.map Prod.fst,k∈S.L.map Prod.fst
 dnd:(S.D.map Prod.fst).Nodup
 key:∀p∈S.L,p.1.size<=512/\J1c p.2
 bud:S.bud<=1000000000000
 le:J4 S.L<=2000000000000
def J00 (S:St):Prop:=J4 S.L<=S.bud
theorem Jkk (k:ByteArray) (it:Itm):48<=J0r k it:=by unfold J0r;omega
theorem Jhy (L:AL Itm):48*L.length<=J4 L:=by
 induction L with
 |nil=>simp[J4]
 |cons p L ih=>
  have:=Jkk p.1 p.2
  simp only[J4,List.map_cons,List.sum_cons,List.length_cons] at ih⊢;omega
theorem J68 (A B:AL Itm):J4 (A++B)=J4 A+J4 B:=by simp[J4]
theorem J40 {A B:AL Itm} (h:A.Perm B):J4 A=J4 B:=(h.map _).sum_nat
theorem Fit.few (h:Fit S):S.L.length<=41666666667:=by
 have:=Jhy S.L;have:=h.le;omega
theorem Fit.fewD (h:Fit S):S.D.length<=S.L.length:=by
 have:(S.D.map Prod.fst).length<=(S.L.map Prod.fst).length:=List.Nodup.length_le_of_subset h.dnd h.ends
 simpa using this
theorem J0p {m:AL α} {v:α} (h:J7 m k=some v):(k,v)∈m:=by
 simp only[J7,Option.map_eq_some_iff] at h;obtain⟨p,hp,rfl⟩:=h
 have h1:=List.mem_of_find?_eq_some hp;have h2:=List.find?_some hp;simp only[decide_eq_true_eq] at h2;subst h2;exact h1
theorem J9g {m:AL α} (h:J7 m k=none):k∉m.map Prod.fst:=by
 intro hm
 obtain⟨p,hp,rfl⟩:=List.mem_map.1 hm
 simp only[J7,Option.map_eq_none_iff,List.find?_eq_none] at h;exact h p hp (by simp)
theorem Jgm {m:AL α} {v:α} (hn:(m.map Prod.fst).Nodup) (h:(k,v)∈m):J7 m k=some v:=by
 induction m with
 |nil=>cases h
 |cons p m ih=>
  simp only[List.map_cons,List.nodup_cons] at hn;rcases List.mem_cons.1 h with rfl|h
  ·simp[J7]
  ·have hne:p.1≠k:=fun e=>hn.1 (List.mem_map.2 ⟨_,h,e.symm⟩)
   have:=ih hn.2 h
   simp only[J7,List.find?_cons,decide_eq_false hne] at this⊢;exact this
theorem J75 {m:AL α}:(J7 m k).isSome ↔ k∈m.map Prod.fst:=by
 constructor
 ·intro h
  obtain⟨v,hv⟩:=Option.isSome_iff_exists.1 h
  exact List.mem_map.2 ⟨_,J0p hv,rfl⟩
 ·intro h
  cases hm:J7 m k with
  |none=>exact absurd h (J9g hm)
  |some v=>rfl
theorem J6i {m:AL α} {p:ByteArray×α}:p∈Jk m k ↔ p∈m/\p.1≠k:=by simp[Jk]
theorem J4t {m:AL α} {x:ByteArray}:x∈(Jk m k).map Prod.fst ↔ x∈m.map Prod.fst/\x≠k:=by
 simp only[List.mem_map,J6i];constructor
 ·rintro⟨p,⟨h1,h2⟩,rfl⟩;exact⟨⟨p,h1,rfl⟩,h2⟩
 ·rintro⟨⟨p,h1,rfl⟩,h2⟩;exact⟨p,⟨h1,h2⟩,rfl⟩
theorem J21 {m:AL α} {v:α} (hn:(m.map Prod.fst).Nodup) (h:J7 m k=some v):m.Perm ((k,v)::Jk m k):=by
 induction m with
 |nil=>cases h
 |cons p m ih=>
  simp only[List.map_cons,List.nodup_cons] at hn;by_cases hp:p.1=k
  ·have hv:p.2=v:=by simpa[J7,hp] using h
   have hd:Jk (p::m) k=m:=by
    obtain⟨a,b⟩:=p
    simp only at hp;subst hp
    exact J73 hn.1
   rw[hd,<-hp,<-hv]
  ·have hm:J7 m k=some v:=by simpa[J7,hp] using h
   have hd:Jk (p::m) k=p::Jk m k:=by simp[Jk,hp]
   rw[hd];exact((ih hn.2 hm).cons p).trans (List.Perm.swap _ _ _)
theorem J8v {L:AL Itm} (hn:(L.map Prod.fst).Nodup) (h:J7 L k=some it):J4 L=J0r k it+J4 (Jk L k):=by
 rw[J40 (J21 hn h)];simp[J4]
theorem J2g (L:AL Itm) (k:ByteArray):J4 (Jk L k)<=J4 L:=by
 induction L with
 |nil=>simp[Jk]
 |cons p L ih=>
  by_cases hp:p.1=k
  ·have:Jk (p::L) k=Jk L k:=by simp[Jk,hp]
   rw[this];simp only[J4,List.map_cons,List.sum_cons] at ih⊢;omega
  ·have:Jk (p::L) k=p::Jk L k:=by simp[Jk,hp]
   rw[this];simp only[J4,List.map_cons,List.sum_cons] at ih⊢;omega
theorem J4h {m:AL α} {v:α} (h:(m.map Prod.fst).Nodup):((Jk m k++[(k,v)]).map Prod.fst).Nodup:=by
 rw[List.map_append,List.nodup_append];refine⟨J2y h,by simp,?_⟩
 intro a ha b hb e
 simp only[List.map_cons,List.map_nil,List.mem_cons,List.not_mem_nil,or_false] at hb;subst e;exact(J4t.1 ha).2 hb
theorem Fit.gone (h:Fit S) (key:ByteArray) (kind:Int):Fit (S.gone key kind):=by
 unfold St.gone;split
 ·refine⟨J2y h.nd,fun k hk=>?_,J2y h.dnd,fun p hp=>h.key p (J6i.1 hp).1,h.bud,Nat.le_trans (J2g _ _) h.le⟩
  have:=J4t.1 hk
  exact J4t.2 ⟨h.ends k this.1,this.2⟩
 ·exact h
theorem Fit.due (h:Fit S) (key:ByteArray) (now:Int):Fit (S.due key now):=by
 unfold St.due;split
 ·split
  ·exact h.gone _ _
  ·exact h
 ·exact h
theorem Fit.touch (h:Fit S) (key:ByteArray):Fit (S.touch key):=by
 unfold St.touch;split
 ·rename_i it hl
  have hp:=J21 h.nd hl;have hq:(Jk S.L key++[(key,it)]).Perm S.L:=List.perm_append_comm.trans hp.symm;exact⟨J4h h.nd,fun k hk=>((hq.map Prod.fst).mem_iff).2 (h.ends k hk),h.dnd,fun p hp=>h.key p (hq.mem_iff.1 hp),h.bud,by rw[J40 hq];exact h.le⟩
 ·exact h
theorem J4q {key:ByteArray} {kind:Int} (h:J7 S.L key=some it):S.gone key kind={S with L:=Jk S.L key,D:=Jk S.D key,ev:=S.ev++[(kind,key)]}:=by simp[St.gone,h]
theorem Jfh {key:ByteArray} {kind:Int} (h:J7 S.L key=none):S.gone key kind=S:=by simp[St.gone,h]
theorem J6g (S:St) (key:ByteArray) (kind:Int):(S.gone key kind).bud=S.bud:=by unfold St.gone;split<;>rfl
theorem Jbj (S:St) (key:ByteArray) (now:Int):(S.due key now).bud=S.bud:=by
 unfold St.due;split
 ·split
  ·exact J6g _ _ _
  ·rfl
 ·rfl
theorem Jb1 (S:St) (key:ByteArray):(S.touch key).bud=S.bud:=by unfold St.touch;split<;>rfl
theorem Jbn (S:St) (key:ByteArray) (kind:Int):(S.gone key kind).ev.length<=S.ev.length+1:=by unfold St.gone;split<;>simp
theorem Ji3 (S:St) (key:ByteArray) (now:Int):(S.due key now).ev.length<=S.ev.length+1:=by
 unfold St.due;split
 ·split
  ·exact Jbn _ _ _
  ·omega
 ·omega
theorem J00.gone (h:J00 S) (key:ByteArray) (kind:Int):J00 (S.gone key kind):=by
 unfold J00 at *;rw[J6g];unfold St.gone;split
 ·exact Nat.le_trans (J2g _ _) h
 ·exact h
theorem J00.due (h:J00 S) (key:ByteArray) (now:Int):J00 (S.due key now):=by
 unfold St.due;split
 ·split
  ·exact h.gone _ _
  ·exact h
 ·exact h
theorem J00.touch (hf:Fit S) (h:J00 S) (key:ByteArray):J00 (S.touch key):=by
 unfold J00 at *;rw[Jb1];unfold St.touch;split
 ·rename_i it hl
  have hq:(Jk S.L key++[(key,it)]).Perm S.L:=List.perm_append_comm.trans (J21 hf.nd hl).symm;rw[J40 hq];exact h
 ·exact h
theorem Fit.lay (h:Fit S) (ht:J00 S) {key:ByteArray} (hk:key.size<=512) (hr:J1c it) (hc:J0r key it<=S.bud) (keep:Bool):Fit (S.lay key it keep):=by
 have hb:=h.bud
 have hkeys:∀x,x∈(Jk S.L key++[(key,it)]).map Prod.fst ↔ x∈S.L.map Prod.fst\/x=key:=by
  intro x
  rw[List.map_append,List.mem_append,J4t];simp only[List.map_cons,List.map_nil,List.mem_cons,List.not_mem_nil,or_false];by_cases e:x=key<;>simp[e]
 refine⟨J4h h.nd,fun k hk=>?_,?_,fun p hp=>?_,h.bud,?_⟩
 ·refine(hkeys k).2 ?_
  cases keep with
  |true=>exact .inl (h.ends k hk)
  |false=>exact .inl (h.ends k (J4t.1 hk).1)
 ·cases keep with
  |true=>exact h.dnd
  |false=>exact J2y h.dnd
 ·rcases List.mem_append.1 hp with hp|hp
  ·exact h.key p (J6i.1 hp).1
  ·simp only[List.mem_cons,List.not_mem_nil,or_false] at hp
   subst hp;exact⟨hk,hr⟩
 ·have h1:=J2g S.L key
  have h2:J4 (Jk S.L key++[(key,it)])=J4 (Jk S.L key)+J0r key it:=by rw[J68];simp[J4]
  unfold J00 at ht;show J4 (Jk S.L key++[(key,it)])<=_
  omega
theorem J7u {ks:List ByteArray} {but:ByteArray} (h:(Kx ks but).2=true) (hn:ks.Nodup):(Kx ks but).1∈ks/\(Kx ks but).1≠but:=by
 unfold Kx at h⊢;match ks,hn with
 |[],_=>simp at h
 |[k],_=>
  by_cases hk:k=but
  ·simp[hk] at h
  ·simp[hk]
 |k::k2::r,hn=>
  by_cases hk:k=but
  ·subst hk
   simp only[List.nodup_cons,List.mem_cons,not_or] at hn;simp only[if_true];exact⟨by simp,fun e=>hn.1.1 e.symm⟩
  ·simp[hk]
theorem Jdk {ks:List ByteArray} {but:ByteArray} (h:(Kx ks but).2=false):ks=[]\/ks=[but]:=by
 unfold Kx at h;match ks with
 |[]=>exact .inl rfl
 |[k]=>
  by_cases hk:k=but
  ·exact .inr (by rw[hk])
  ·simp[hk] at h
 |k::k2::r=>
  by_cases hk:k=but<;>simp[hk] at h
theorem Jeu {m:AL α} {x:ByteArray} (h:x≠k):J7 (Jk m k) x=J7 m x:=by
 induction m with
 |nil=>rfl
 |cons p m ih=>
  simp only[J7,Jk,List.filter_cons] at ih⊢;by_cases hp:p.1=k
  ·have hx:¬p.1=x:=fun e=>h (e.symm.trans hp)
   simp only[hp,ne_eq,not_true,decide_false,Bool.false_eq_true,if_false];rw[ih,List.find?_cons];simp[hx]
  ·simp only[ne_eq,hp,not_false_eq_true,decide_true,if_true,List.find?_cons]
   by_cases hx:p.1=x
   ·simp[hx]
   ·simp only[hx,decide_false];exact ih
theorem J86 {m:AL α}:J7 (Jk m k) k=none:=by
 cases h:J7 (Jk m k) k with
 |none=>rfl
 |some v=>exact absurd rfl (J6i.1 (J0p h)).2
theorem Jd3:∀(n:Nat) (S:St) (but:ByteArray),Fit S->S.L.length<=n->(∃it,J7 S.L but=some it/\J0r but it<=S.bud)->Fit (S.evict n but)/\J00 (S.evict n but)/\J7 (S.evict n but).L but=J7 S.L but/\(S.evict n but).ev.length<=S.ev.length+S.L.length
 |0,S,but,hf,hn,⟨it,h,_⟩=>by
  have hl:S.L=[]:=List.length_eq_zero_iff.1 (Nat.le_zero.1 hn);rw[hl] at h;cases h
 |n+1,S,but,hf,hn,⟨it,h,hc⟩=>by
  unfold St.evict;split
  ·rename_i hb
   split
   ·rename_i ho
    obtain⟨hm,hne⟩:=J7u ho hf.nd
    obtain⟨jt,hj⟩:=Option.isSome_iff_exists.1 (J75.2 hm)
    have hg:=J4q (kind:=4) hj;have hl2:J7 (S.gone (Kx (S.L.map Prod.fst) but).1 4).L but=J7 S.L but:=by rw[hg];exact Jeu (Ne.symm hne)
    have hlen:(S.gone (Kx (S.L.map Prod.fst) but).1 4).L.length+1=S.L.length:=by
     rw[hg];have:=(J21 hf.nd hj).length_eq
     simpa using this.symm
    have hev:=Jbn S (Kx (S.L.map Prod.fst) but).1 4;have ih:=Jd3 n _ but (hf.gone (Kx (S.L.map Prod.fst) but).1 4) (by omega) ⟨it,by rw[hl2];exact h,by rw[J6g];exact hc⟩
    exact⟨ih.1,ih.2.1,by rw[ih.2.2.1,hl2],by have:=ih.2.2.2;omega⟩
   ·rename_i ho
    rcases Jdk (by simpa using ho) with hz|hz
    ·rw[List.map_eq_nil_iff] at hz
     rw[hz] at h;cases h
    ·exfalso
     obtain⟨p,hp,hpe⟩:∃p,S.L=[p]/\p.1=but:=by
      cases hL:S.L with
      |nil=>rw[hL] at hz;cases hz
      |cons p r=>
       rw[hL] at hz;simp only[List.map_cons,List.cons.injEq,List.map_eq_nil_iff] at hz;obtain⟨hz1,rfl⟩:=hz
       exact⟨p,rfl,hz1⟩
     have:=J0p h
     rw[hp] at this hb;simp only[List.mem_cons,List.not_mem_nil,or_false] at this;subst this;simp[J4] at hb;omega
  ·rename_i hb
   exact⟨hf,by unfold J00;omega,rfl,by omega⟩
end Go.Proofs.YtefjbegnlolgbaaGreatDoor
namespace Go.Proofs.YtefjbegnlolgbaaGreatDoor
open Go Go.RowKit
def Jn3 (h:Int) (b:UInt8):Int:=IntKind.u64.wrap (bits BinOp.xor IntKind.u64 h (IntKind.u64.wrap b.toNat)*1099511628211)
def hsh (l:List UInt8):Int:=l.foldl Jn3 14695981039346656037
theorem Jm6 (l:List UInt8):0<=hsh l/\hsh l<18446744073709551616:=by
 have hw:∀x:Int,0<=IntKind.u64.wrap x/\IntKind.u64.wrap x<18446744073709551616:=by
  intro x;rw[IntKind.wrap_u64];omega
 rcases List.eq_nil_or_concat l with rfl|⟨l',b,rfl⟩
 ·exact⟨by decide,by decide⟩
 ·simp only[List.concat_eq_append,hsh,List.foldl_append,List.foldl_cons,List.foldl_nil]
  exact hw _
def Jd (k:ByteArray):Nat:=(hsh k.data.toList).toNat
theorem Jie (s:ByteArray) (k:Nat) (h:k<s.size):hsh (s.data.toList.take (k+1))=IntKind.u64.wrap (bits BinOp.xor IntKind.u64 (hsh (s.data.toList.take k)) (IntKind.u64.wrap s[k].toNat)*1099511628211):=by
 have:s.data.toList.take (k+1)=s.data.toList.take k++[s[k]]:=by
  rw[List.take_succ_eq_append_getElem (by simpa using h)];rfl
 rw[this,hsh,List.foldl_append];rfl
theorem Jib (s:ByteArray) (w:World) (hs:s.size<=maxLen):
 Calls Tryz.prog 343 #[.string s] w fun e w'=>e= .returned (.int .u64 (Jd s:Nat))/\w=w':=by
 have hs':s.size<=9223372036854775807:=by unfold maxLen at hs;omega
 clear hs;have hfin:((Jd s:Nat):Int)=hsh s.data.toList:=Int.toNat_of_nonneg (Jm6 _).1;have Hf:=hid hfin;clear hfin;go_enter Tryz.func343,Tryz.ntmps343;go_wp2
 go_loop [3,7] (fun h i=>∃k:Nat,k<=s.size/\i= .int .i64 k/\h= .int .u64 (hsh (s.data.toList.take k))) (fun _ i=>s.size - (intOf i).toNat)
 case atStart=>exact⟨0,Nat.zero_le _,rfl,rfl⟩
 case round=>
  obtain⟨k,hk,rfl,rfl⟩:=hrel
  by_cases hlt:k<s.size
  ·have hsn:=hid (Jie s k hlt)
   go_wp2
   go_round
   case rel=>exact⟨k+1,by omega,by go_num,by rw[hsn.out]⟩
   case measure=>simp[intOf];omega
  ·obtain rfl:k=s.size:=by omega
   go_wp2
   go_ret;refine⟨?_,rfl⟩
   rw[Hf.out,List.take_of_length_le (by simp)];rfl
end Go.Proofs.YtefjbegnlolgbaaGreatDoor
