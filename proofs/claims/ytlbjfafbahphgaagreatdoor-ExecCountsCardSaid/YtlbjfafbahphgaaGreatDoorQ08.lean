/-
expiry: New, Get, Drop, Put, by which keys end when.
-/
import Derived.Test.YtlbjfafbahphgaaGreatDoorProg
import Derived.Test.YtlbjfafbahphgaaGreatDoorQ01
import Derived.Test.YtlbjfafbahphgaaGreatDoorQ03
import Derived.Test.YtlbjfafbahphgaaGreatDoorQ05
import Derived.Test.YtlbjfafbahphgaaGreatDoorQ07
set_option linter.unusedVariables false
set_option linter.unusedSimpArgs false
set_option maxRecDepth 100000
set_option maxHeartbeats 8000000
namespace Go.Proofs.YtlbjfafbahphgaaGreatDoor
open Go Go.RowKit
variable {α:Type}
def ExpHp (xb mb:Nat) (rv:Value) (sl:Hp) (es:List En) (o:Obj):Hp:=HeapHp xb mb rv sl es++[(mb,o)]
def enKP (e:En):ByteArray×Value:=(e.key,ptr' e.b)
def enKT (e:En):ByteArray×Int:=(e.key,e.t)
def IsExpiry (l:Hp) (xb:Nat) (D:AL Int):Prop:=
 ∃mb o rv sl es m,l=ExpHp xb mb rv sl es o/\HeapAt rv sl es/\StrMap o m/\m.Perm (es.map enKP)/\D.Perm (es.map enKT)/\(D.map Prod.fst).Nodup
theorem kp_keys (es:List En):(es.map enKP).map Prod.fst=(es.map enKT).map Prod.fst:=by simp[enKP,enKT,Function.comp_def]
theorem zeroEntry (w:World):(zeroValue 230).run Tryz.prog w= .ok (.pointer none) w:=by kernel_rfl
theorem mlook_entries (es:List En) (key:ByteArray):(mlook (es.map enKP) key=none/\mlook (es.map enKT) key=none/\∀e∈es,e.key≠key)\/∃(i:Nat) (e:En),es[i]? =some e/\e.key=key/\mlook (es.map enKP) key=some (ptr' e.b)/\mlook (es.map enKT) key=some e.t:=by
 induction es with
 |nil=>exact .inl ⟨rfl,rfl,by simp⟩
 |cons q es ih=>
  by_cases hq:q.key=key
  ·refine .inr ⟨0,q,rfl,hq,?_,?_⟩
   ·simp[mlook,enKP,hq]
   ·simp[mlook,enKT,hq]
  ·rcases ih with⟨h1,h2,h3⟩|⟨i,e,h1,h2,h3,h4⟩
   ·refine .inl ⟨?_,?_,?_⟩
    ·simpa[mlook,enKP,hq] using h1
    ·simpa[mlook,enKT,hq] using h2
    ·intro e he
     rcases List.mem_cons.1 he with rfl|he
     ·exact hq
     ·exact h3 e he
   ·refine .inr ⟨i+1,e,by simpa using h1,h2,?_,?_⟩
    ·simpa[mlook,enKP,hq] using h3
    ·simpa[mlook,enKT,hq] using h4
theorem mdel_perm {m m':AL α} (h:m.Perm m') (k:ByteArray):(mdel m k).Perm (mdel m' k):=h.filter _
theorem mdel_cons {m:AL α} {k:ByteArray} {v:α} (h:k∉m.map Prod.fst):mdel ((k,v)::m) k=m:=by
 simp only[mdel,List.filter_cons]
 simp only[ne_eq,not_true,decide_false,Bool.false_eq_true,if_false]
 rw[List.filter_eq_self]
 intro p hp
 have:p.1≠k:=fun e=>h (List.mem_map.2 ⟨p,hp,e⟩)
 simpa using this
def ExpGetPost (D:AL Int) (key:ByteArray) (w:World) (e:Ending) (w':World):Prop:=
 e= .returned (.tuple #[.int .i64 ((mlook D key).getD 0),.bool (mlook D key).isSome])/\w=w'
theorem eget_any (l:Hp) (xb:Nat) (D:AL Int) (key:ByteArray) (w:World) (hX:IsExpiry l xb D) (ho:Own w l):
 Calls Tryz.prog 114 #[.pointer (some ⟨xb,0,none⟩),.string key] w (ExpGetPost D key w):=by
 obtain⟨mb,o,rv,sl,es,m,rfl,hat,hm,hp,hD,hn⟩:=hX
 have hmn:(m.map Prod.fst).Nodup:=by
  have h1:(m.map Prod.fst).Perm (D.map Prod.fst):=((hp.map Prod.fst).trans (List.Perm.of_eq (kp_keys es))).trans (hD.map Prod.fst).symm
  exact h1.nodup_iff.2 hn
 have c1:w.cell? ⟨xb,1,none⟩=some (.map (some mb)):=cells_get ho.head 1
 have hmb:w.heap[mb]? =some o:=ho.right.head
 have hlk:=run_look (P:=Tryz.prog) (t:=102) Tryz.underlying102 Tryz.underlying9 zeroEntry hmb hm key
 rw[mlook_perm hp hmn] at hlk
 have hpost:Hid (∀n is,(mlook D key).getD 0=n->(mlook D key).isSome=is->ExpGetPost D key w (.returned (.tuple #[.int .i64 n,.bool is])) w):=fun n is h1 h2=>by subst h1 h2;exact⟨rfl,rfl⟩
 rw[mlook_perm hD hn] at hpost
 rcases mlook_entries es key with⟨h1,h2,h3⟩|⟨i,e,hi,hk,h1,h2⟩
 ·rw[h1] at hlk
  rw[h2] at hpost
  simp only[Option.getD_none,Option.isSome_none] at hlk
  clear h1 h2 h3 hp hD hn hm hat ho
  go_enter Tryz.func114,Tryz.ntmps114
  go_wp2_with fail
  go_ret2
  exact hpost.out 0 false rfl rfl
 ·rw[h1] at hlk
  rw[h2] at hpost
  simp only[Option.getD_some,Option.isSome_some] at hlk
  have hil:=(List.getElem?_eq_some_iff.1 hi).1
  have he:w.heap[e.b]? =some (EnObj e i):=by
   have:=ent_at (r1:=(xb,ExpObj rv mb)::sl) (r2:=[(mb,o)]) (i:=i) (by simpa[ExpHp,HeapHp] using ho) hil
   rwa[(List.getElem?_eq_some_iff.1 hi).2] at this
  have e0:w.cell? ⟨e.b,0,none⟩=some (.int .i64 e.t):=cells_get he 0
  clear h1 h2 hp hD hn hm hat ho hi hil he
  go_enter Tryz.func114,Tryz.ntmps114
  go_wp2_with fail
  go_ret2
  exact hpost.out e.t true rfl rfl
theorem enew_any (w:World):Calls Tryz.prog 21 #[] w fun e w'=>∃xb l',e= .returned (.pointer (some ⟨xb,0,none⟩))/\IsExpiry l' xb []/\Step w [] w' l':=by
 have hmm:=@run_makeMap Tryz.prog
 go_enter Tryz.func21,Tryz.ntmps21
 go_wp2_with fail
 go_ret
 have S1:=((Step.refl (Own.nil w)).alloc (.map #[] 0)).alloc (ExpObj (.slice none 0 0) w.heap.size)
 refine⟨w.heap.size+1,ExpHp (w.heap.size+1) w.heap.size (.slice none 0 0) [] [] (.map #[] 0),rfl,⟨_,_,_,_,[],[],rfl,⟨.nil⟩,StrMap.empty,List.Perm.refl _,List.Perm.refl _,by simp⟩,?_⟩
 have e:(w.alloc (.map #[] 0)).heap.size=w.heap.size+1:=by simp
 rw[e] at S1
 exact S1
def EDropPost (l:Hp) (xb:Nat) (D:AL Int) (key:ByteArray) (w:World) (e:Ending) (w':World):Prop:=
 e= .returned (.bool (mlook D key).isSome)/\∃l',IsExpiry l' xb (mdel D key)/\Step w l w' l'
theorem anIface {w0:World} {l:Hp} {xb mb:Nat} {r:Hp} {es:List En} {x:En} {e:Ending} {w':World} (h:Removed w0 l xb mb r es x e w'):
 ∃rv' sl' es',e= .returned (.iface 230 (ptr' x.b))/\(es'++[x]).Perm es/\HeapAt rv' sl' es'/\Step w0 l w' (HeapHp xb mb rv' sl' es'++r):=by
 obtain⟨h1,rv',sl',es',h2,h3,h4⟩:=h
 exact⟨rv',sl',es',h1,h2,h3,h4.less (List.sublist_cons_self _ _)⟩
theorem edrop_any (l:Hp) (xb:Nat) (D:AL Int) (key:ByteArray) (w:World) (hX:IsExpiry l xb D) (hB:D.length<=1099511627776) (ho:Own w l):
 Calls Tryz.prog 112 #[.pointer (some ⟨xb,0,none⟩),.string key] w (EDropPost l xb D key w):=by
 obtain⟨mb,o,rv,sl,es,m,rfl,hat,hm,hp,hD,hn⟩:=hX
 have hmn:(m.map Prod.fst).Nodup:=by
  have h1:(m.map Prod.fst).Perm (D.map Prod.fst):=((hp.map Prod.fst).trans (List.Perm.of_eq (kp_keys es))).trans (hD.map Prod.fst).symm
  exact h1.nodup_iff.2 hn
 have hlenD:=hD.length_eq
 rw[List.length_map] at hlenD
 have c1:w.cell? ⟨xb,1,none⟩=some (.map (some mb)):=cells_get ho.head 1
 have hmb:w.heap[mb]? =some o:=ho.right.head
 have hlk:=run_look (P:=Tryz.prog) (t:=102) Tryz.underlying102 Tryz.underlying9 zeroEntry hmb hm key
 rw[mlook_perm hp hmn] at hlk
 have hpost:Hid (∀is w' l',(mlook D key).isSome=is->IsExpiry l' xb (mdel D key)->Step w (ExpHp xb mb rv sl es o) w' l'->EDropPost (ExpHp xb mb rv sl es o) xb D key w (.returned (.bool is)) w'):=fun is w' l' h1 h2 h3=>by subst h1;exact⟨rfl,l',h2,h3⟩
 rw[mlook_perm hD hn] at hpost
 rcases mlook_entries es key with⟨h1,h2,h3⟩|⟨i,e,hi,hk,h1,h2⟩
 ·rw[h1] at hlk
  rw[h2] at hpost
  simp only[Option.getD_none,Option.isSome_none] at hlk
  have hdel:mdel D key=D:=mdel_none (by rw[mlook_perm hD hn];exact h2)
  have hfin:=hid (show IsExpiry (ExpHp xb mb rv sl es o) xb (mdel D key) by rw[hdel];exact⟨mb,o,rv,sl,es,m,rfl,hat,hm,hp,hD,hn⟩)
  have hst:=hid (Step.refl ho)
  clear h1 h2 h3 hp hD hn hm hat ho hmn hdel hlenD hB
  go_enter Tryz.func112,Tryz.ntmps112
  go_wp2_with fail
  go_ret
  exact hpost.out false _ _ rfl hfin.out hst.out
 ·rw[h1] at hlk
  rw[h2] at hpost
  simp only[Option.getD_some,Option.isSome_some] at hlk
  have hil:=(List.getElem?_eq_some_iff.1 hi).1
  have he:w.heap[e.b]? =some (EnObj e i):=by
   have:=ent_at (r1:=(xb,ExpObj rv mb)::sl) (r2:=[(mb,o)]) (i:=i) (by simpa[ExpHp,HeapHp] using ho) hil
   rwa[(List.getElem?_eq_some_iff.1 hi).2] at this
  have e2:w.cell? ⟨e.b,2,none⟩=some (.int .i64 i):=cells_get he 2
  have hrem:=hid (hremove_any (Step.refl ho).drew hat hi (by omega))
  have hm':=hid hm
  have hp':=hid hp
  have hD':=hid hD
  have hn':=hid hn
  have hmn':=hid hmn
  replace hk:=hid hk
  clear h1 h2 hp hD hn hm hat ho hi hil he hmn hlenD hB
  go_enter Tryz.func112,Tryz.ntmps112
  go_wp2_with fail
  go_still_tail 8,(by kernel_rfl)
  go_wp2_with fail
  refine hrem.out.mono ?_
  intro en w2 hR
  obtain⟨rv2,sl2,es2,rfl,hp2,hat2,S2⟩:=anIface hR
  have c1b:w2.cell? ⟨xb,1,none⟩=some (.map (some mb)):=cells_get S2.own.head 1
  obtain⟨o',hdel,hm2⟩:=run_del (P:=Tryz.prog) (t:=102) Tryz.underlying102 Tryz.underlying9 0 S2.own.right.head hm'.out hmn'.out key 9
  obtain⟨w3,hw3⟩:∃w3:World,w3={w2 with heap:=w2.heap.setIfInBounds mb o'}:=⟨_,rfl⟩
  rw[<-hw3] at hdel
  have S3:Step w (ExpHp xb mb rv sl es o) w3 (ExpHp xb mb rv2 sl2 es2 o'):=
   ((S2.permR (l2:=(mb,o)::HeapHp xb mb rv2 sl2 es2) List.perm_append_comm).obj hw3).permR (List.perm_append_comm (l₁:=[_]))
  have hfin:Hid (IsExpiry (ExpHp xb mb rv2 sl2 es2 o') xb (mdel D key)):=by
   have hke:key=e.key:=hk.out.symm
   subst hke
   have hq:(e::es2).Perm es:=(List.perm_append_comm (l₁:=[e]) (l₂:=es2)).trans hp2
   have hnd:((e::es2).map En.key).Nodup:=by
    have h1:(D.map Prod.fst).Perm ((e::es2).map En.key):=(hD'.out.map Prod.fst).trans ((List.Perm.of_eq (by simp[enKT,Function.comp_def])).trans (hq.map En.key).symm)
    exact h1.nodup_iff.1 hn'.out
   simp only[List.map_cons,List.nodup_cons] at hnd
   refine⟨mb,o',rv2,sl2,es2,_,rfl,hat2,hm2,?_,?_,mdel_keys hn'.out⟩
   ·have h1:=mdel_perm (hp'.out.trans (hq.map enKP).symm) e.key
    rw[List.map_cons] at h1
    refine h1.trans (List.Perm.of_eq (mdel_cons ?_))
    simpa[enKP,Function.comp_def] using hnd.1
   ·have h1:=mdel_perm (hD'.out.trans (hq.map enKT).symm) e.key
    rw[List.map_cons] at h1
    refine h1.trans (List.Perm.of_eq (mdel_cons ?_))
    simpa[enKT,Function.comp_def] using hnd.1
  replace S3:=hid S3
  clear hlk hw3 hm2 S2 hR hp2 hat2
  go_wp2_with fail
  go_ret
  exact hpost.out true _ _ rfl hfin.out S3.out
theorem mset_perm {m m':AL α} (h:m.Perm m') (k:ByteArray) (v:α):(mset m k v).Perm (mset m' k v):=h.map _
theorem heap_time {w0 w:World} {l r sl:Hp} {xb mb i:Nat} {rv:Value} {es:List En} {e:En} (hS:Step w0 l w (HeapHp xb mb rv sl es++r)) (hat:HeapAt rv sl es) (hi:es[i]? =some e) (t:Int):
 HeapAt rv sl (es.set i ⟨e.b,t,e.key⟩)/\Step w0 l (w.setCell ⟨e.b,0,none⟩ (.int .i64 t)) (HeapHp xb mb rv sl (es.set i ⟨e.b,t,e.key⟩)++r):=by
 obtain⟨hil,hen⟩:=List.getElem?_eq_some_iff.1 hi
 subst hen
 have e1:es=es.take i++es[i]::es.drop (i+1):=by
  rw[<-List.drop_eq_getElem_cons hil,List.take_append_drop]
 have e2:es.set i ⟨(es[i]).b,t,(es[i]).key⟩=es.take i++⟨(es[i]).b,t,(es[i]).key⟩::es.drop (i+1):=by
  rw[List.set_eq_take_append_cons_drop,if_pos hil]
 have htl:(es.take i).length=i:=by simp;omega
 have h1:entHp 0 es=entHp 0 (es.take i)++((es[i]).b,EnObj es[i] i)::entHp (i+1) (es.drop (i+1)):=by
  conv=>lhs;rw[e1]
  rw[entHp_append,htl]
  simp[entHp]
 have h2:entHp 0 (es.set i ⟨(es[i]).b,t,(es[i]).key⟩)=entHp 0 (es.take i)++((es[i]).b,EnObj ⟨(es[i]).b,t,(es[i]).key⟩ i)::entHp (i+1) (es.drop (i+1)):=by
  rw[e2,entHp_append,htl]
  simp[entHp]
 constructor
 ·obtain⟨hsl⟩:=hat
  refine⟨?_⟩
  rw[List.length_set]
  have:(es.set i ⟨(es[i]).b,t,(es[i]).key⟩).map enPtr=es.map enPtr:=by
   apply List.ext_getElem?
   intro j
   simp only[List.getElem?_map,List.getElem?_set]
   by_cases hij:i=j
   ·subst hij
    rw[if_pos rfl,if_pos hil,hi]
    rfl
   ·rw[if_neg hij]
  rw[this]
  exact hsl
 ·rw[HeapHp,h1] at hS
  have hS2:Step w0 l w (((xb,ExpObj rv mb)::(sl++entHp 0 (es.take i)))++((es[i]).b,EnObj es[i] i)::(entHp (i+1) (es.drop (i+1))++r)):=hS.permR (List.Perm.of_eq (by simp))
  have h3:=hS2.setIn 0 (.int .i64 t)
  refine h3.permR (List.Perm.of_eq ?_)
  rw[HeapHp,h2]
  simp
def EPutPost (l:Hp) (xb:Nat) (D:AL Int) (key:ByteArray) (t:Int) (w:World) (e:Ending) (w':World):Prop:=
 e= .returned (.int .i64 0)/\∃l',IsExpiry l' xb (mput D key t)/\Step w l w' l'
theorem eput_any (l:Hp) (xb:Nat) (D:AL Int) (key:ByteArray) (t:Int) (w:World) (hX:IsExpiry l xb D) (hB:D.length<1099511627776) (ht:0<=t/\t<=4611686018427387904) (ho:Own w l):
 Calls Tryz.prog 149 #[.pointer (some ⟨xb,0,none⟩),.string key,.int .i64 t] w (EPutPost l xb D key t w):=by
 obtain⟨mb,o,rv,sl,es,m,rfl,hat,hm,hp,hD,hn⟩:=hX
 have hmn:(m.map Prod.fst).Nodup:=by
  have h1:(m.map Prod.fst).Perm (D.map Prod.fst):=((hp.map Prod.fst).trans (List.Perm.of_eq (kp_keys es))).trans (hD.map Prod.fst).symm
  exact h1.nodup_iff.2 hn
 have hlenD:=hD.length_eq
 rw[List.length_map] at hlenD
 have ht1:¬t<0:=by omega
 have ht2:¬4611686018427387904<t:=by omega
 clear ht
 have c1:w.cell? ⟨xb,1,none⟩=some (.map (some mb)):=cells_get ho.head 1
 have hmb:w.heap[mb]? =some o:=ho.right.head
 have hlk:=run_look (P:=Tryz.prog) (t:=102) Tryz.underlying102 Tryz.underlying9 zeroEntry hmb hm key
 rw[mlook_perm hp hmn] at hlk
 have hpost:Hid (∀w' l',IsExpiry l' xb (mput D key t)->Step w (ExpHp xb mb rv sl es o) w' l'->EPutPost (ExpHp xb mb rv sl es o) xb D key t w (.returned (.int .i64 0)) w'):=fun w' l' h2 h3=>⟨rfl,l',h2,h3⟩
 rcases mlook_entries es key with⟨h1,h2,h3⟩|⟨i,e,hi,hk,h1,h2⟩
 ·have hlD:mlook D key=none:=by rw[mlook_perm hD hn];exact h2
  have hlm:mlook m key=none:=by rw[mlook_perm hp hmn];exact h1
  rw[h1] at hlk
  simp only[Option.getD_none,Option.isSome_none] at hlk
  obtain⟨S1,_⟩:∃S:Step w (ExpHp xb mb rv sl es o) (w.alloc (.cells #[.int .i64 t,.string key,.int .i64 0] 237)) ((w.heap.size,.cells #[.int .i64 t,.string key,.int .i64 0] 237)::ExpHp xb mb rv sl es o),True:=⟨(Step.refl ho).alloc _,trivial⟩
  have hmb1:(w.alloc (.cells #[.int .i64 t,.string key,.int .i64 0] 237)).heap[mb]? =some o:=S1.own.tail.right.head
  have c1a:(w.alloc (.cells #[.int .i64 t,.string key,.int .i64 0] 237)).cell? ⟨xb,1,none⟩=some (.map (some mb)):=cells_get S1.own.tail.head 1
  obtain⟨o',hup,hm'⟩:=run_put (P:=Tryz.prog) (t:=102) Tryz.underlying102 Tryz.underlying9 hmb1 hm hmn key (ptr' w.heap.size)
  obtain⟨w2,hw2⟩:∃w2:World,w2={(w.alloc (.cells #[.int .i64 t,.string key,.int .i64 0] 237)) with heap:=(w.alloc (.cells #[.int .i64 t,.string key,.int .i64 0] 237)).heap.setIfInBounds mb o'}:=⟨_,rfl⟩
  rw[<-hw2] at hup
  have S2:Step w (ExpHp xb mb rv sl es o) w2 ((w.heap.size,.cells #[.int .i64 t,.string key,.int .i64 0] 237)::(HeapHp xb mb rv sl es++[(mb,o')])):=by
   have h1:=(S1.permR (l2:=(mb,o)::((w.heap.size,.cells #[.int .i64 t,.string key,.int .i64 0] 237)::HeapHp xb mb rv sl es)) (by
    rw[ExpHp,<-List.cons_append];exact List.perm_append_comm)).obj hw2
   exact h1.permR (by rw[<-List.cons_append];exact List.perm_append_comm (l₁:=[_]))
  have hpush:=hid (hpush_any S2 hat (by omega))
  have hxlt:=block_lt ho.head
  have hfin:Hid (∀w',HeapNow w (ExpHp xb mb rv sl es o) xb mb [(mb,o')] (es++[⟨w.heap.size,t,key⟩]) w'->∃l',IsExpiry l' xb (mput D key t)/\Step w (ExpHp xb mb rv sl es o) w' l'):=by
   rintro w' ⟨rv',sl',es',hp',hat',hS'⟩
   refine⟨_,⟨mb,o',rv',sl',es',_,rfl,hat',hm',?_,?_,mput_keys hn⟩,hS'⟩
   ·rw[mput,hlm]
    simp only[Option.isSome_none,Bool.false_eq_true,if_false]
    refine(hp.append_right _).trans ?_
    refine List.Perm.trans ?_ (hp'.map enKP).symm
    exact List.Perm.of_eq (by simp[enKP])
   ·rw[mput,hlD]
    simp only[Option.isSome_none,Bool.false_eq_true,if_false]
    refine(hD.append_right _).trans ?_
    refine List.Perm.trans ?_ (hp'.map enKT).symm
    exact List.Perm.of_eq (by simp[enKT])
  clear h1 h2 h3 hp hD hn hm hat ho hmn hlenD hB hlD hlm hmb1 hw2 S1 S2 hm'
  go_enter Tryz.func149,Tryz.ntmps149
  go_wp2_with fail
  refine hpush.out.mono ?_
  rintro en w3 ⟨rfl,hnow⟩
  obtain⟨l',hX',hS'⟩:=hfin.out _ hnow
  replace hX':=hid hX'
  replace hS':=hid hS'
  clear hnow hfin
  go_wp2_with fail
  go_ret
  exact hpost.out _ _ hX'.out hS'.out
 ·rw[h1] at hlk
  simp only[Option.getD_some,Option.isSome_some] at hlk
  have hil:=(List.getElem?_eq_some_iff.1 hi).1
  have he:w.heap[e.b]? =some (EnObj e i):=by
   have:=ent_at (r1:=(xb,ExpObj rv mb)::sl) (r2:=[(mb,o)]) (i:=i) (by simpa[ExpHp,HeapHp] using ho) hil
   rwa[(List.getElem?_eq_some_iff.1 hi).2] at this
  have e0:w.cell? ⟨e.b,0,none⟩=some (.int .i64 e.t):=cells_get he 0
  have e2:w.cell? ⟨e.b,2,none⟩=some (.int .i64 i):=cells_get he 2
  have f0:w.frozen? ⟨e.b,0,none⟩=false:=cells_free he 0
  obtain⟨hat2,S2⟩:=heap_time (r:=[(mb,o)]) (Step.refl ho) hat hi t
  have hfix:=hid (hfix_any (i:=i) S2.drew hat2 (by simpa using hil) (by simp;omega))
  have he2:(w.setCell ⟨e.b,0,none⟩ (.int .i64 t)).heap[e.b]? =some (EnObj ⟨e.b,t,e.key⟩ i):=by
   have:=ent_at (r1:=(xb,ExpObj rv mb)::sl) (r2:=[(mb,o)]) (i:=i) (by simpa[ExpHp,HeapHp] using S2.own) (by simpa using hil)
   simpa using this
  have e2b:=cells_get he2 2
  simp only[List.getElem?_toArray,List.getElem?_cons_succ,List.getElem?_cons_zero] at e2b
  have hlD:mlook D key=some e.t:=by rw[mlook_perm hD hn];exact h2
  have hfin:Hid (∀w',HeapNow w (ExpHp xb mb rv sl es o) xb mb [(mb,o)] (es.set i ⟨e.b,t,e.key⟩) w'->∃l',IsExpiry l' xb (mput D key t)/\Step w (ExpHp xb mb rv sl es o) w' l'):=by
   rintro w' ⟨rv',sl',es',hp',hat',hS'⟩
   subst hk
   have hen:=(List.getElem?_eq_some_iff.1 hi).2
   refine⟨_,⟨mb,o,rv',sl',es',m,rfl,hat',hm,?_,?_,mput_keys hn⟩,hS'⟩
   ·refine hp.trans (List.Perm.trans ?_ (hp'.map enKP).symm)
    refine List.Perm.of_eq ?_
    apply List.ext_getElem?
    intro j
    simp only[List.getElem?_map,List.getElem?_set]
    by_cases hij:i=j
    ·subst hij
     rw[if_pos rfl,if_pos hil,hi]
     rfl
    ·rw[if_neg hij]
   ·rw[mput,hlD]
    simp only[Option.isSome_some,if_true]
    refine(mset_perm hD _ _).trans (List.Perm.trans ?_ (hp'.map enKT).symm)
    have hnk:((es.map enKT).map Prod.fst).Nodup:=(hD.map Prod.fst).nodup_iff.1 hn
    rw[mset_at hnk (by simpa using hil) (by simp[enKT,hen])]
    refine List.Perm.of_eq ?_
    rw[List.map_set]
    rfl
  clear h1 h2 hp hD hn hm hat ho hi hil he hmn hlenD hB hlD hat2 S2 hk he2
  go_enter Tryz.func149,Tryz.ntmps149
  go_wp2_with fail
  generalize w.setCell ⟨e.b,0,none⟩ (.int .i64 t)=w2 at hfix e2b⊢
  go_still_tail 8,(by kernel_rfl)
  go_wp2_with fail
  refine hfix.out.mono ?_
  rintro en w3 ⟨rfl,hnow⟩
  obtain⟨l',hX',hS'⟩:=hfin.out _ hnow
  replace hX':=hid hX'
  replace hS':=hid hS'
  clear hnow hfin
  go_wp2_with fail
  go_ret
  exact hpost.out _ _ hX'.out hS'.out
end Go.Proofs.YtlbjfafbahphgaaGreatDoor
namespace Go.Proofs.YtlbjfafbahphgaaGreatDoor
open Go
variable {α:Type}{k:ByteArray}
structure Itm where
 kind:Int
 text:ByteArray
 fs:Fs
variable {it:Itm}
def zeroItm:Itm:=⟨0,ByteArray.empty,[]⟩
def fieldsCost (fs:Fs):Nat:=(fs.map fun f=>16+f.1.size+f.2.size).sum
def cost (key:ByteArray) (it:Itm):Nat:=
 48+key.size+if it.kind=1 then(if(wnum it.text).isSome then 8 else it.text.size) else fieldsCost it.fs
def rightB (it:Itm):Prop:=
 (it.kind=1/\it.text.size<=4096/\it.fs=[])\/
 (it.kind=2/\it.text=ByteArray.empty/\Rise it.fs/\1<=it.fs.length/\it.fs.length<=256/\∀f∈it.fs,f.1.size<=512/\f.2.size<=4096)
def bytesOf (L:AL Itm):Nat:=(L.map fun p=>cost p.1 p.2).sum
structure St where
 L:AL Itm
 D:AL Int
 ev:List (Int×ByteArray)
 bud:Nat
variable {S:St}
def St.gone (S:St) (key:ByteArray) (kind:Int):St:=if(mlook S.L key).isSome then {S with L:=mdel S.L key,D:=mdel S.D key,ev:=S.ev++[(kind,key)]} else S
def St.due (S:St) (key:ByteArray) (now:Int):St:=match mlook S.D key with
 |some t=>if t<=now then S.gone key 3 else S
 |none=>S
def St.touch (S:St) (key:ByteArray):St:=match mlook S.L key with
 |some it=>{S with L:=mdel S.L key++[(key,it)]}
 |none=>S
def St.evict:Nat->St->ByteArray->St
 |0,S,_=>S
 |n+1,S,but=>if S.bud<bytesOf S.L then(if(oldest (S.L.map Prod.fst) but).2 then St.evict n (S.gone (oldest (S.L.map Prod.fst) but).1 4) but else S) else S
def St.lay (S:St) (key:ByteArray) (it:Itm) (keep:Bool):St:={S with L:=mdel S.L key++[(key,it)],D:=if keep then S.D else mdel S.D key,ev:=S.ev++[(1,key)]}
structure Fit (S:St):Prop where
 nd:(S.L.map Prod.fst).Nodup
 ends:∀k∈S.D.map Prod.fst,k∈S.L.map Prod.fst
 dnd:(S.D.map Prod.fst).Nodup
 key:∀p∈S.L,p.1.size<=512/\rightB p.2
 bud:S.bud<=1000000000000
 le:bytesOf S.L<=2000000000000
def Tight (S:St):Prop:=bytesOf S.L<=S.bud
theorem cost_ge (k:ByteArray) (it:Itm):48<=cost k it:=by unfold cost;omega
theorem bytes_ge (L:AL Itm):48*L.length<=bytesOf L:=by
 induction L with
 |nil=>simp[bytesOf]
 |cons p L ih=>
  have:=cost_ge p.1 p.2
  simp only[bytesOf,List.map_cons,List.sum_cons,List.length_cons] at ih⊢
  omega
theorem bytes_append (A B:AL Itm):bytesOf (A++B)=bytesOf A+bytesOf B:=by simp[bytesOf]
theorem bytes_perm {A B:AL Itm} (h:A.Perm B):bytesOf A=bytesOf B:=(h.map _).sum_nat
theorem Fit.few (h:Fit S):S.L.length<=41666666667:=by
 have:=bytes_ge S.L;have:=h.le;omega
theorem Fit.fewD (h:Fit S):S.D.length<=S.L.length:=by
 have:(S.D.map Prod.fst).length<=(S.L.map Prod.fst).length:=List.Nodup.length_le_of_subset h.dnd h.ends
 simpa using this
theorem mlook_some {m:AL α} {v:α} (h:mlook m k=some v):(k,v)∈m:=by
 simp only[mlook,Option.map_eq_some_iff] at h
 obtain⟨p,hp,rfl⟩:=h
 have h1:=List.mem_of_find?_eq_some hp
 have h2:=List.find?_some hp
 simp only[decide_eq_true_eq] at h2
 subst h2;exact h1
theorem mlook_none {m:AL α} (h:mlook m k=none):k∉m.map Prod.fst:=by
 intro hm
 obtain⟨p,hp,rfl⟩:=List.mem_map.1 hm
 simp only[mlook,Option.map_eq_none_iff,List.find?_eq_none] at h
 exact h p hp (by simp)
theorem mlook_mem {m:AL α} {v:α} (hn:(m.map Prod.fst).Nodup) (h:(k,v)∈m):mlook m k=some v:=by
 induction m with
 |nil=>cases h
 |cons p m ih=>
  simp only[List.map_cons,List.nodup_cons] at hn
  rcases List.mem_cons.1 h with rfl|h
  ·simp[mlook]
  ·have hne:p.1≠k:=fun e=>hn.1 (List.mem_map.2 ⟨_,h,e.symm⟩)
   have:=ih hn.2 h
   simp only[mlook,List.find?_cons,decide_eq_false hne] at this⊢
   exact this
theorem mlook_iff {m:AL α}:(mlook m k).isSome ↔ k∈m.map Prod.fst:=by
 constructor
 ·intro h
  obtain⟨v,hv⟩:=Option.isSome_iff_exists.1 h
  exact List.mem_map.2 ⟨_,mlook_some hv,rfl⟩
 ·intro h
  cases hm:mlook m k with
  |none=>exact absurd h (mlook_none hm)
  |some v=>rfl
theorem mem_mdel {m:AL α} {p:ByteArray×α}:p∈mdel m k ↔ p∈m/\p.1≠k:=by simp[mdel]
theorem mdel_fst {m:AL α} {x:ByteArray}:x∈(mdel m k).map Prod.fst ↔ x∈m.map Prod.fst/\x≠k:=by
 simp only[List.mem_map,mem_mdel]
 constructor
 ·rintro⟨p,⟨h1,h2⟩,rfl⟩;exact⟨⟨p,h1,rfl⟩,h2⟩
 ·rintro⟨⟨p,h1,rfl⟩,h2⟩;exact⟨p,⟨h1,h2⟩,rfl⟩
theorem mdel_split {m:AL α} {v:α} (hn:(m.map Prod.fst).Nodup) (h:mlook m k=some v):m.Perm ((k,v)::mdel m k):=by
 induction m with
 |nil=>cases h
 |cons p m ih=>
  simp only[List.map_cons,List.nodup_cons] at hn
  by_cases hp:p.1=k
  ·have hv:p.2=v:=by simpa[mlook,hp] using h
   have hd:mdel (p::m) k=m:=by
    obtain⟨a,b⟩:=p
    simp only at hp;subst hp
    exact mdel_cons hn.1
   rw[hd,<-hp,<-hv]
  ·have hm:mlook m k=some v:=by simpa[mlook,hp] using h
   have hd:mdel (p::m) k=p::mdel m k:=by simp[mdel,hp]
   rw[hd]
   exact((ih hn.2 hm).cons p).trans (List.Perm.swap _ _ _)
theorem bytes_mdel {L:AL Itm} (hn:(L.map Prod.fst).Nodup) (h:mlook L k=some it):bytesOf L=cost k it+bytesOf (mdel L k):=by
 rw[bytes_perm (mdel_split hn h)];simp[bytesOf]
theorem bytes_mdel_le (L:AL Itm) (k:ByteArray):bytesOf (mdel L k)<=bytesOf L:=by
 induction L with
 |nil=>simp[mdel]
 |cons p L ih=>
  by_cases hp:p.1=k
  ·have:mdel (p::L) k=mdel L k:=by simp[mdel,hp]
   rw[this];simp only[bytesOf,List.map_cons,List.sum_cons] at ih⊢;omega
  ·have:mdel (p::L) k=p::mdel L k:=by simp[mdel,hp]
   rw[this];simp only[bytesOf,List.map_cons,List.sum_cons] at ih⊢;omega
theorem mdel_nodup {m:AL α} (h:(m.map Prod.fst).Nodup):((mdel m k).map Prod.fst).Nodup:=mdel_keys h
theorem mdel_snoc_nodup {m:AL α} {v:α} (h:(m.map Prod.fst).Nodup):((mdel m k++[(k,v)]).map Prod.fst).Nodup:=by
 rw[List.map_append,List.nodup_append]
 refine⟨mdel_keys h,by simp,?_⟩
 intro a ha b hb e
 simp only[List.map_cons,List.map_nil,List.mem_cons,List.not_mem_nil,or_false] at hb
 subst e;exact(mdel_fst.1 ha).2 hb
theorem Fit.gone (h:Fit S) (key:ByteArray) (kind:Int):Fit (S.gone key kind):=by
 unfold St.gone
 split
 ·refine⟨mdel_keys h.nd,fun k hk=>?_,mdel_keys h.dnd,fun p hp=>h.key p (mem_mdel.1 hp).1,h.bud,Nat.le_trans (bytes_mdel_le _ _) h.le⟩
  have:=mdel_fst.1 hk
  exact mdel_fst.2 ⟨h.ends k this.1,this.2⟩
 ·exact h
theorem Fit.due (h:Fit S) (key:ByteArray) (now:Int):Fit (S.due key now):=by
 unfold St.due
 split
 ·split
  ·exact h.gone _ _
  ·exact h
 ·exact h
theorem Fit.touch (h:Fit S) (key:ByteArray):Fit (S.touch key):=by
 unfold St.touch
 split
 ·rename_i it hl
  have hp:=mdel_split h.nd hl
  have hq:(mdel S.L key++[(key,it)]).Perm S.L:=List.perm_append_comm.trans hp.symm
  exact⟨mdel_snoc_nodup h.nd,fun k hk=>((hq.map Prod.fst).mem_iff).2 (h.ends k hk),h.dnd,fun p hp=>h.key p (hq.mem_iff.1 hp),h.bud,by rw[bytes_perm hq];exact h.le⟩
 ·exact h
theorem gone_yes {key:ByteArray} {kind:Int} (h:mlook S.L key=some it):S.gone key kind={S with L:=mdel S.L key,D:=mdel S.D key,ev:=S.ev++[(kind,key)]}:=by simp[St.gone,h]
theorem gone_no {key:ByteArray} {kind:Int} (h:mlook S.L key=none):S.gone key kind=S:=by simp[St.gone,h]
theorem gone_bud (S:St) (key:ByteArray) (kind:Int):(S.gone key kind).bud=S.bud:=by unfold St.gone;split<;>rfl
theorem due_bud (S:St) (key:ByteArray) (now:Int):(S.due key now).bud=S.bud:=by
 unfold St.due
 split
 ·split
  ·exact gone_bud _ _ _
  ·rfl
 ·rfl
theorem touch_bud (S:St) (key:ByteArray):(S.touch key).bud=S.bud:=by unfold St.touch;split<;>rfl
theorem evict_bud:∀(n:Nat) (S:St) (but:ByteArray),(S.evict n but).bud=S.bud
 |0,S,but=>rfl
 |n+1,S,but=>by
  unfold St.evict
  split
  ·split
   ·rw[evict_bud n,gone_bud]
   ·rfl
  ·rfl
theorem gone_ev (S:St) (key:ByteArray) (kind:Int):(S.gone key kind).ev.length<=S.ev.length+1:=by unfold St.gone;split<;>simp
theorem due_ev (S:St) (key:ByteArray) (now:Int):(S.due key now).ev.length<=S.ev.length+1:=by
 unfold St.due
 split
 ·split
  ·exact gone_ev _ _ _
  ·omega
 ·omega
theorem Tight.gone (h:Tight S) (key:ByteArray) (kind:Int):Tight (S.gone key kind):=by
 unfold Tight at *
 rw[gone_bud]
 unfold St.gone
 split
 ·exact Nat.le_trans (bytes_mdel_le _ _) h
 ·exact h
theorem Tight.due (h:Tight S) (key:ByteArray) (now:Int):Tight (S.due key now):=by
 unfold St.due
 split
 ·split
  ·exact h.gone _ _
  ·exact h
 ·exact h
theorem Tight.touch (hf:Fit S) (h:Tight S) (key:ByteArray):Tight (S.touch key):=by
 unfold Tight at *
 rw[touch_bud]
 unfold St.touch
 split
 ·rename_i it hl
  have hq:(mdel S.L key++[(key,it)]).Perm S.L:=List.perm_append_comm.trans (mdel_split hf.nd hl).symm
  rw[bytes_perm hq];exact h
 ·exact h
theorem Fit.lay (h:Fit S) (ht:Tight S) {key:ByteArray} (hk:key.size<=512) (hr:rightB it) (hc:cost key it<=S.bud) (keep:Bool):Fit (S.lay key it keep):=by
 have hb:=h.bud
 have hkeys:∀x,x∈(mdel S.L key++[(key,it)]).map Prod.fst ↔ x∈S.L.map Prod.fst\/x=key:=by
  intro x
  rw[List.map_append,List.mem_append,mdel_fst]
  simp only[List.map_cons,List.map_nil,List.mem_cons,List.not_mem_nil,or_false]
  by_cases e:x=key<;>simp[e]
 refine⟨mdel_snoc_nodup h.nd,fun k hk=>?_,?_,fun p hp=>?_,h.bud,?_⟩
 ·refine(hkeys k).2 ?_
  cases keep with
  |true=>exact .inl (h.ends k hk)
  |false=>exact .inl (h.ends k (mdel_fst.1 hk).1)
 ·cases keep with
  |true=>exact h.dnd
  |false=>exact mdel_keys h.dnd
 ·rcases List.mem_append.1 hp with hp|hp
  ·exact h.key p (mem_mdel.1 hp).1
  ·simp only[List.mem_cons,List.not_mem_nil,or_false] at hp
   subst hp;exact⟨hk,hr⟩
 ·have h1:=bytes_mdel_le S.L key
  have h2:bytesOf (mdel S.L key++[(key,it)])=bytesOf (mdel S.L key)+cost key it:=by rw[bytes_append];simp[bytesOf]
  unfold Tight at ht
  show bytesOf (mdel S.L key++[(key,it)])<=_
  omega
theorem oldest_some {ks:List ByteArray} {but:ByteArray} (h:(oldest ks but).2=true) (hn:ks.Nodup):(oldest ks but).1∈ks/\(oldest ks but).1≠but:=by
 unfold oldest at h⊢
 match ks,hn with
 |[],_=>simp at h
 |[k],_=>
  by_cases hk:k=but
  ·simp[hk] at h
  ·simp[hk]
 |k::k2::r,hn=>
  by_cases hk:k=but
  ·subst hk
   simp only[List.nodup_cons,List.mem_cons,not_or] at hn
   simp only[if_true]
   exact⟨by simp,fun e=>hn.1.1 e.symm⟩
  ·simp[hk]
theorem oldest_none {ks:List ByteArray} {but:ByteArray} (h:(oldest ks but).2=false):ks=[]\/ks=[but]:=by
 unfold oldest at h
 match ks with
 |[]=>exact .inl rfl
 |[k]=>
  by_cases hk:k=but
  ·exact .inr (by rw[hk])
  ·simp[hk] at h
 |k::k2::r=>
  by_cases hk:k=but<;>simp[hk] at h
theorem mlook_mdel {m:AL α} {x:ByteArray} (h:x≠k):mlook (mdel m k) x=mlook m x:=by
 induction m with
 |nil=>rfl
 |cons p m ih=>
  simp only[mlook,mdel,List.filter_cons] at ih⊢
  by_cases hp:p.1=k
  ·have hx:¬p.1=x:=fun e=>h (e.symm.trans hp)
   simp only[hp,ne_eq,not_true,decide_false,Bool.false_eq_true,if_false]
   rw[ih,List.find?_cons]
   simp[hx]
  ·simp only[ne_eq,hp,not_false_eq_true,decide_true,if_true,List.find?_cons]
   by_cases hx:p.1=x
   ·simp[hx]
   ·simp only[hx,decide_false];exact ih
theorem mlook_mdel_same {m:AL α}:mlook (mdel m k) k=none:=by
 cases h:mlook (mdel m k) k with
 |none=>rfl
 |some v=>exact absurd rfl (mem_mdel.1 (mlook_some h)).2
theorem evict_ok:∀(n:Nat) (S:St) (but:ByteArray),Fit S->S.L.length<=n->(∃it,mlook S.L but=some it/\cost but it<=S.bud)->Fit (S.evict n but)/\Tight (S.evict n but)/\mlook (S.evict n but).L but=mlook S.L but/\(S.evict n but).ev.length<=S.ev.length+S.L.length
 |0,S,but,hf,hn,⟨it,h,_⟩=>by
  have hl:S.L=[]:=List.length_eq_zero_iff.1 (Nat.le_zero.1 hn)
  rw[hl] at h;cases h
 |n+1,S,but,hf,hn,⟨it,h,hc⟩=>by
  unfold St.evict
  split
  ·rename_i hb
   split
   ·rename_i ho
    obtain⟨hm,hne⟩:=oldest_some ho hf.nd
    obtain⟨jt,hj⟩:=Option.isSome_iff_exists.1 (mlook_iff.2 hm)
    have hg:=gone_yes (kind:=4) hj
    have hl2:mlook (S.gone (oldest (S.L.map Prod.fst) but).1 4).L but=mlook S.L but:=by rw[hg];exact mlook_mdel (Ne.symm hne)
    have hlen:(S.gone (oldest (S.L.map Prod.fst) but).1 4).L.length+1=S.L.length:=by
     rw[hg]
     have:=(mdel_split hf.nd hj).length_eq
     simpa using this.symm
    have hev:=gone_ev S (oldest (S.L.map Prod.fst) but).1 4
    have ih:=evict_ok n _ but (hf.gone (oldest (S.L.map Prod.fst) but).1 4) (by omega) ⟨it,by rw[hl2];exact h,by rw[gone_bud];exact hc⟩
    exact⟨ih.1,ih.2.1,by rw[ih.2.2.1,hl2],by have:=ih.2.2.2;omega⟩
   ·rename_i ho
    rcases oldest_none (by simpa using ho) with hz|hz
    ·rw[List.map_eq_nil_iff] at hz
     rw[hz] at h;cases h
    ·exfalso
     obtain⟨p,hp,hpe⟩:∃p,S.L=[p]/\p.1=but:=by
      cases hL:S.L with
      |nil=>rw[hL] at hz;cases hz
      |cons p r=>
       rw[hL] at hz
       simp only[List.map_cons,List.cons.injEq,List.map_eq_nil_iff] at hz
       obtain⟨hz1,rfl⟩:=hz
       exact⟨p,rfl,hz1⟩
     have:=mlook_some h
     rw[hp] at this hb
     simp only[List.mem_cons,List.not_mem_nil,or_false] at this
     subst this
     simp[bytesOf] at hb
     omega
  ·rename_i hb
   exact⟨hf,by unfold Tight;omega,rfl,by omega⟩
end Go.Proofs.YtlbjfafbahphgaaGreatDoor
namespace Go.Proofs.YtlbjfafbahphgaaGreatDoor
open Go Go.RowKit
def hStep (h:Int) (b:UInt8):Int:=IntKind.u64.wrap (bits BinOp.xor IntKind.u64 h (IntKind.u64.wrap b.toNat)*1099511628211)
def hsh (l:List UInt8):Int:=l.foldl hStep 14695981039346656037
theorem hsh_bd (l:List UInt8):0<=hsh l/\hsh l<18446744073709551616:=by
 have hw:∀x:Int,0<=IntKind.u64.wrap x/\IntKind.u64.wrap x<18446744073709551616:=by
  intro x;rw[IntKind.wrap_u64];omega
 rcases List.eq_nil_or_concat l with rfl|⟨l',b,rfl⟩
 ·exact⟨by decide,by decide⟩
 ·simp only[List.concat_eq_append,hsh,List.foldl_append,List.foldl_cons,List.foldl_nil]
  exact hw _
def hashNat (k:ByteArray):Nat:=(hsh k.data.toList).toNat
theorem hsh_snoc (s:ByteArray) (k:Nat) (h:k<s.size):hsh (s.data.toList.take (k+1))=IntKind.u64.wrap (bits BinOp.xor IntKind.u64 (hsh (s.data.toList.take k)) (IntKind.u64.wrap s[k].toNat)*1099511628211):=by
 have:s.data.toList.take (k+1)=s.data.toList.take k++[s[k]]:=by
  rw[List.take_succ_eq_append_getElem (by simpa using h)];rfl
 rw[this,hsh,List.foldl_append]
 rfl
theorem hash_any (s:ByteArray) (w:World) (hs:s.size<=maxLen):
 Calls Tryz.prog 210 #[.string s] w fun e w'=>e= .returned (.int .u64 (hashNat s:Nat))/\w=w':=by
 have hs':s.size<=9223372036854775807:=by unfold maxLen at hs;omega
 clear hs
 have hfin:((hashNat s:Nat):Int)=hsh s.data.toList:=Int.toNat_of_nonneg (hsh_bd _).1
 have Hf:=hid hfin
 clear hfin
 go_enter Tryz.func210,Tryz.ntmps210
 go_wp2
 go_loop [3,7] (fun h i=>∃k:Nat,k<=s.size/\i= .int .i64 k/\h= .int .u64 (hsh (s.data.toList.take k))) (fun _ i=>s.size - (intOf i).toNat)
 case atStart=>exact⟨0,Nat.zero_le _,rfl,rfl⟩
 case round=>
  obtain⟨k,hk,rfl,rfl⟩:=hrel
  by_cases hlt:k<s.size
  ·have hsn:=hid (hsh_snoc s k hlt)
   go_wp2
   go_round
   case rel=>exact⟨k+1,by omega,by go_num,by rw[hsn.out]⟩
   case measure=>simp[intOf];omega
  ·obtain rfl:k=s.size:=by omega
   go_wp2
   go_ret
   refine⟨?_,rfl⟩
   rw[Hf.out,List.take_of_length_le (by simp)];rfl
end Go.Proofs.YtlbjfafbahphgaaGreatDoor
