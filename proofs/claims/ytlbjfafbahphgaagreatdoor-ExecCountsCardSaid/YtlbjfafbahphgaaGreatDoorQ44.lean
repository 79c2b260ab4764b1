/-
table.Keys: all keys, in order (printed by gen_tkeys.py).
-/
import Derived.Test.YtlbjfafbahphgaaGreatDoorQ26
import Derived.Test.YtlbjfafbahphgaaGreatDoorQ39
import Derived.Test.YtlbjfafbahphgaaGreatDoorQ43
set_option linter.unusedVariables false
set_option linter.unusedSimpArgs false
set_option maxRecDepth 100000
set_option maxHeartbeats 8000000
namespace Go.Proofs.YtlbjfafbahphgaaGreatDoor
open Go Go.RowKit
variable {w0 w:World}{r l:Hp}{S:St}{v:Value}{k:ByteArray}
abbrev RowObj (s:Value) (fl gr:Int):Obj:=.cells #[s,.int .i64 fl,.int .i64 gr] 81 (0,0)
abbrev PlaceObj (st:Int) (k:ByteArray) (n:Int):Obj:=.cells #[.int .i64 st,.string k,.int .i64 n] 86 (0,0)
def keysIn (ps:List Pl):List ByteArray:=(fulls ps).map Prod.fst
theorem keysIn_take {ps:List Pl} {j:Nat} (hj:j<ps.length):keysIn (ps.take (j+1))=keysIn (ps.take j)++(if(plAt ps j).st=1 then [(plAt ps j).key] else []):=by
 have h:=at_plAt hj
 unfold keysIn fulls
 rw[List.take_add_one,h,List.filterMap_append,List.map_append]
 congr 1
 simp only[Option.toList_some,List.filterMap_cons,List.filterMap_nil,plOf]
 by_cases h1:(plAt ps j).st=1<;>simp[h1]
theorem keysIn_le (ps:List Pl) (j:Nat):(keysIn (ps.take j)).length<=(keysIn ps).length:=by
 unfold keysIn fulls
 rw[List.length_map,List.length_map]
 exact((List.take_sublist j ps).filterMap _).length_le
def RowAt (w0:World) (L:Hp) (ra:Option Addr) (m:Nat) (ps:List Pl):Prop:=m=ps.length/\m<=1099511627776/\∀(w':World) (x:Hp),Step w0 [] w' (x++L)->∀j,j<m->∃pb,ra=some ⟨pb,0,none⟩/\PlacesAt w' pb ps
theorem tkeys_walk {b:Nat} {L:Hp} {a0 a1:Option Addr} {m0 m1:Nat} {f0 f1 g0 g1:Int} {p0 p1:List Pl} (hS:Step w0 [] w (L++r))
 (c0:w.cell? ⟨b,0,none⟩=some (.slice a0 m0 m0)) (c1:w.cell? ⟨b,1,none⟩=some (.int .i64 f0)) (c2:w.cell? ⟨b,2,none⟩=some (.int .i64 g0))
 (c3:w.cell? ⟨b,3,none⟩=some (.slice a1 m1 m1)) (c4:w.cell? ⟨b,4,none⟩=some (.int .i64 f1)) (c5:w.cell? ⟨b,5,none⟩=some (.int .i64 g1))
 (h0:RowAt w0 (L++r) a0 m0 p0) (h1:RowAt w0 (L++r) a1 m1 p1) (hM:(keysIn p0++keysIn p1).length<=1000000000):
  Calls Tryz.prog 13 #[ptr b] w (fun e w'=>∃(v:Value) (ks:List ByteArray) (sl:Hp),e= .returned v/\ks.Perm (keysIn p0++keysIn p1)/\SliceHp 1 9 v ks.length (ks.map Value.string) sl/\Step w0 [] w' (sl++(L++r))):=by
  have S0:Hid (Step w0 [] w ([]++(L++r))):=hid hS
  clear hS
  rw[List.length_append] at hM
  obtain⟨hl0,hb0,h0⟩:=h0
  obtain⟨hl1,hb1,h1⟩:=h1
  replace hl0:=hid hl0
  replace hl1:=hid hl1
  replace h0:=hid h0
  replace h1:=hid h1
  replace hM:=hid hM
  go_enter Tryz.func13,Tryz.ntmps13
  go_wp2_with fail
  go_quiet (fail)
  go_wp2_with fail
  go_loopw [3,5,7,17,23] (fun s3 s5 s7 s17 s23 wr=>∃(k n1:Nat) (va:Option Addr) (cc:Nat) (sl:Hp),s17= .int .i64 k/\s3= .slice va n1 cc/\k<=2/\Hid (IsWs (.slice va n1 cc) (if k=0 then [] else if k=1 then keysIn p0 else keysIn p0++keysIn p1) sl)/\Hid (n1=(if k=0 then([]:List ByteArray) else if k=1 then keysIn p0 else keysIn p0++keysIn p1).length)/\Hid (Step w0 [] wr (sl++(L++r)))) (fun s3 s5 s7 s17 s23 wr=>(2 - intOf s17).toNat)
  case atStart=>exact⟨0,0,none,0,[],rfl,rfl,by omega,hid .nil,hid rfl,hid (S0.out.drewN _)⟩
  case round=>
   obtain⟨k,n1,va,cc,sl,rfl,rfl,hk,hws,hn1,S1⟩:=hrel
   clear S0 c0 c1 c2 c3 c4 c5
   by_cases hlt:k<2
   ·rcases(show k=0\/k=1 by omega) with rfl|rfl
    ·simp only[if_true] at hws hn1
     simp only[show((0:Nat):Int)=0 from rfl]
     have xK:∀w:World,(Instr.index 84 (.agg #[.slice a0 m0 m0,.int .i64 f0,.int .i64 g0,.slice a1 m1 m1,.int .i64 f1,.int .i64 g1]) (.int .i64 0)).run Tryz.prog w= .ok (.agg #[.slice a0 m0 m0,.int .i64 f0,.int .i64 g0]) w:=fun _=>by kernel_rfl
     go_upto_region 5 with fail
     clear xK
     have S2:=S1.out.alloc (RowObj (.slice a0 m0 m0) f0 g0)
     generalize hw:wr.alloc _=w1 at S2⊢
     clear hw S1
     generalize wr.heap.size=rb at S2⊢
     have q0:w1.cell? ⟨rb,0,none⟩=some (.slice a0 m0 m0):=cells_get S2.own.head 0
     have S3:Hid (Step w0 [] w1 (sl++(L++r))):=hid (S2.less (List.sublist_cons_self _ _))
     clear S2
     go_wp2_with fail
     clear q0
     obtain⟨D,hD⟩:∃D:List ByteArray,D=[]:=⟨_,rfl⟩
     have hD2:Hid (D.length+(keysIn p0).length<=1000000000):=hid (by rw[hD];have:=hM.out;simp only[List.length_nil];omega)
     go_loopw [3,7,23] (fun s3 s7 s23 wq=>∃(j n2:Nat) (vb:Option Addr) (cb:Nat) (sl:Hp),s23= .int .i64 j/\s3= .slice vb n2 cb/\j<=m0/\Hid (IsWs (.slice vb n2 cb) (D++keysIn (p0.take j)) sl)/\Hid (n2=(D++keysIn (p0.take j)).length)/\Hid (Step w0 [] wq (sl++(L++r)))) (fun s3 s7 s23 wq=>(m0 - intOf s23).toNat)
     case atStart=>exact⟨0,n1,va,cc,sl,rfl,rfl,Nat.zero_le _,hid (by rw[List.take_zero,hD];rw[show keysIn []=[] from rfl,List.append_nil];exact hws.out),hid (by rw[List.take_zero,hD];rw[show keysIn []=[] from rfl,List.append_nil];exact hn1.out),S3⟩
     case round=>
      obtain⟨j,n2,vb,cb,sl2,rfl,rfl,hj,hws2,hn2,S4⟩:=hrel
      clear S3 hws hn1
      by_cases hjt:j<m0
      ·have hjt2:(j:Int)<(m0:Int):=by omega
       have hjp:j<p0.length:=by rw[<-hl0.out];exact hjt
       obtain⟨pb,rfl,hpl⟩:=h0.out wr sl2 S4.out j hjt
       have c0:=hpl.st hjp
       have c1:=hpl.key hjp
       have c2:=hpl.n hjp
       have htk:=keysIn_take hjp
       have hle:=keysIn_le p0 j
       clear hpl
       generalize (plAt p0 j).st=st at c0 htk
       generalize (plAt p0 j).key=key at c1 htk
       generalize (plAt p0 j).n=pn at c2
       replace htk:=hid htk
       replace hle:=hid hle
       replace hjp:=hid hjp
       by_cases hst:st=1
       ·subst hst
        go_upto_region 9 with fail
        have S5:=S4.out.alloc (PlaceObj 1 key pn)
        generalize hw:wr.alloc _=w2 at S5⊢
        clear hw S4 c0 c1 c2
        generalize wr.heap.size=ob at S5⊢
        have q1:w2.cell? ⟨ob,1,none⟩=some (.string key):=cells_get S5.own.head 1
        have S6:=(S5.less (List.sublist_cons_self _ _)).alloc (WsObj [key])
        obtain⟨vc,c9,w3,sl3,hrun,hws3,S7⟩:=push_ws (nb:=w2.heap.size) (r:=(w2.heap.size,WsObj [key])::(L++r)) (S6.permR (perm_by fun f=>by simp only[SC];omega)) hws2.out hn2.out.symm (by rw[hn2.out,List.length_append];have:=hD2.out;have:=hle.out;omega) [key] (by simp) (by simp) (by simp)
        simp only[List.length_cons,List.length_nil,Nat.zero_add,List.map_cons,List.map_nil] at hrun
        replace hrun:=hid hrun
        have S8:Hid (Step w0 [] w3 (sl3++(L++r))):=hid (S7.pick (m:=[(w2.heap.size,WsObj [key])]) (perm_by fun f=>by simp only[SC];omega))
        replace hws3:Hid (IsWs (.slice vc (n2+1) c9) (D++keysIn (p0.take (j+1))) sl3):=hid (by rw[htk.out,if_pos rfl,<-List.append_assoc];exact hws3)
        have hn3:Hid (n2+1=(D++keysIn (p0.take (j+1))).length):=hid (by rw[htk.out,if_pos rfl,<-List.append_assoc,List.length_append,<-hn2.out];rfl)
        clear S5 S6 S7 hws2 hn2
        go_upto_region 10 with (at_builtin;refine wpList_append_run rfl _ _ _ _ rfl _ _ rfl rfl hrun.out ?_)
        clear q1 hrun
        go_wp2_with fail
        go_roundw
        case rel=>exact⟨j+1,n2+1,vc,c9,sl3,by go_num,rfl,hjt,hws3,hn3,S8⟩
        case measure=>simp[intOf];omega
       ·have S5:Hid (Step w0 [] (wr.alloc (PlaceObj st key pn)) (sl2++(L++r))):=hid ((S4.out.alloc (PlaceObj st key pn)).less (List.sublist_cons_self _ _))
        replace hws2:Hid (IsWs (.slice vb n2 cb) (D++keysIn (p0.take (j+1))) sl2):=hid (by rw[htk.out,if_neg hst,List.append_nil];exact hws2.out)
        replace hn2:Hid (n2=(D++keysIn (p0.take (j+1))).length):=hid (by rw[htk.out,if_neg hst,List.append_nil];exact hn2.out)
        clear S4
        go_wp2_with fail
        go_roundw
        case rel=>exact⟨j+1,n2,vb,cb,sl2,by go_num,rfl,hjt,hws2,hn2,S5⟩
        case measure=>simp[intOf];omega
      ·have hge2:¬(j:Int)<(m0:Int):=by omega
       have hall:p0.take j=p0:=List.take_of_length_le (by rw[<-hl0.out];omega)
       rw[hall] at hws2 hn2
       subst hD
       clear hall
       go_wp2_with fail
       go_roundw
       case rel=>exact⟨1,n2,vb,cb,sl2,by go_num,rfl,by omega,hid (by simpa using hws2.out),hid (by simpa using hn2.out),S4⟩
       case measure=>simp[intOf]
    ·simp only[show ¬(1=0) by decide,if_true,if_false] at hws hn1
     simp only[show((1:Nat):Int)=1 from rfl]
     have xK:∀w:World,(Instr.index 84 (.agg #[.slice a0 m0 m0,.int .i64 f0,.int .i64 g0,.slice a1 m1 m1,.int .i64 f1,.int .i64 g1]) (.int .i64 1)).run Tryz.prog w= .ok (.agg #[.slice a1 m1 m1,.int .i64 f1,.int .i64 g1]) w:=fun _=>by kernel_rfl
     go_upto_region 5 with fail
     clear xK
     have S2:=S1.out.alloc (RowObj (.slice a1 m1 m1) f1 g1)
     generalize hw:wr.alloc _=w1 at S2⊢
     clear hw S1
     generalize wr.heap.size=rb at S2⊢
     have q0:w1.cell? ⟨rb,0,none⟩=some (.slice a1 m1 m1):=cells_get S2.own.head 0
     have S3:Hid (Step w0 [] w1 (sl++(L++r))):=hid (S2.less (List.sublist_cons_self _ _))
     clear S2
     go_wp2_with fail
     clear q0
     obtain⟨D,hD⟩:∃D:List ByteArray,D=keysIn p0:=⟨_,rfl⟩
     have hD2:Hid (D.length+(keysIn p1).length<=1000000000):=hid (by rw[hD];have:=hM.out;omega)
     go_loopw [3,7,23] (fun s3 s7 s23 wq=>∃(j n2:Nat) (vb:Option Addr) (cb:Nat) (sl:Hp),s23= .int .i64 j/\s3= .slice vb n2 cb/\j<=m1/\Hid (IsWs (.slice vb n2 cb) (D++keysIn (p1.take j)) sl)/\Hid (n2=(D++keysIn (p1.take j)).length)/\Hid (Step w0 [] wq (sl++(L++r)))) (fun s3 s7 s23 wq=>(m1 - intOf s23).toNat)
     case atStart=>exact⟨0,n1,va,cc,sl,rfl,rfl,Nat.zero_le _,hid (by rw[List.take_zero,hD];rw[show keysIn []=[] from rfl,List.append_nil];exact hws.out),hid (by rw[List.take_zero,hD];rw[show keysIn []=[] from rfl,List.append_nil];exact hn1.out),S3⟩
     case round=>
      obtain⟨j,n2,vb,cb,sl2,rfl,rfl,hj,hws2,hn2,S4⟩:=hrel
      clear S3 hws hn1
      by_cases hjt:j<m1
      ·have hjt2:(j:Int)<(m1:Int):=by omega
       have hjp:j<p1.length:=by rw[<-hl1.out];exact hjt
       obtain⟨pb,rfl,hpl⟩:=h1.out wr sl2 S4.out j hjt
       have c0:=hpl.st hjp
       have c1:=hpl.key hjp
       have c2:=hpl.n hjp
       have htk:=keysIn_take hjp
       have hle:=keysIn_le p1 j
       clear hpl
       generalize (plAt p1 j).st=st at c0 htk
       generalize (plAt p1 j).key=key at c1 htk
       generalize (plAt p1 j).n=pn at c2
       replace htk:=hid htk
       replace hle:=hid hle
       replace hjp:=hid hjp
       by_cases hst:st=1
       ·subst hst
        go_upto_region 9 with fail
        have S5:=S4.out.alloc (PlaceObj 1 key pn)
        generalize hw:wr.alloc _=w2 at S5⊢
        clear hw S4 c0 c1 c2
        generalize wr.heap.size=ob at S5⊢
        have q1:w2.cell? ⟨ob,1,none⟩=some (.string key):=cells_get S5.own.head 1
        have S6:=(S5.less (List.sublist_cons_self _ _)).alloc (WsObj [key])
        obtain⟨vc,c9,w3,sl3,hrun,hws3,S7⟩:=push_ws (nb:=w2.heap.size) (r:=(w2.heap.size,WsObj [key])::(L++r)) (S6.permR (perm_by fun f=>by simp only[SC];omega)) hws2.out hn2.out.symm (by rw[hn2.out,List.length_append];have:=hD2.out;have:=hle.out;omega) [key] (by simp) (by simp) (by simp)
        simp only[List.length_cons,List.length_nil,Nat.zero_add,List.map_cons,List.map_nil] at hrun
        replace hrun:=hid hrun
        have S8:Hid (Step w0 [] w3 (sl3++(L++r))):=hid (S7.pick (m:=[(w2.heap.size,WsObj [key])]) (perm_by fun f=>by simp only[SC];omega))
        replace hws3:Hid (IsWs (.slice vc (n2+1) c9) (D++keysIn (p1.take (j+1))) sl3):=hid (by rw[htk.out,if_pos rfl,<-List.append_assoc];exact hws3)
        have hn3:Hid (n2+1=(D++keysIn (p1.take (j+1))).length):=hid (by rw[htk.out,if_pos rfl,<-List.append_assoc,List.length_append,<-hn2.out];rfl)
        clear S5 S6 S7 hws2 hn2
        go_upto_region 10 with (at_builtin;refine wpList_append_run rfl _ _ _ _ rfl _ _ rfl rfl hrun.out ?_)
        clear q1 hrun
        go_wp2_with fail
        go_roundw
        case rel=>exact⟨j+1,n2+1,vc,c9,sl3,by go_num,rfl,hjt,hws3,hn3,S8⟩
        case measure=>simp[intOf];omega
       ·have S5:Hid (Step w0 [] (wr.alloc (PlaceObj st key pn)) (sl2++(L++r))):=hid ((S4.out.alloc (PlaceObj st key pn)).less (List.sublist_cons_self _ _))
        replace hws2:Hid (IsWs (.slice vb n2 cb) (D++keysIn (p1.take (j+1))) sl2):=hid (by rw[htk.out,if_neg hst,List.append_nil];exact hws2.out)
        replace hn2:Hid (n2=(D++keysIn (p1.take (j+1))).length):=hid (by rw[htk.out,if_neg hst,List.append_nil];exact hn2.out)
        clear S4
        go_wp2_with fail
        go_roundw
        case rel=>exact⟨j+1,n2,vb,cb,sl2,by go_num,rfl,hjt,hws2,hn2,S5⟩
        case measure=>simp[intOf];omega
      ·have hge2:¬(j:Int)<(m1:Int):=by omega
       have hall:p1.take j=p1:=List.take_of_length_le (by rw[<-hl1.out];omega)
       rw[hall] at hws2 hn2
       subst hD
       clear hall
       go_wp2_with fail
       go_roundw
       case rel=>exact⟨2,n2,vb,cb,sl2,by go_num,rfl,by omega,hid (by simpa using hws2.out),hid (by simpa using hn2.out),S4⟩
       case measure=>simp[intOf]
   ·have hge:¬(k:Int)<2:=by omega
    have hk2:k=2:=by omega
    subst hk2
    simp only[show ¬(2=0) by decide,show ¬(2=1) by decide,if_false] at hws hn1
    have hs:=hid (sort_all (r:=L++r) S1.out (by have:=hws.out;unfold IsWs at this;exact this) (by have:=hM.out;rw[List.length_append];omega))
    have hn2:=hn1
    go_wp2_with fail
    refine hs.out.mono ?_
    rintro e w2 ⟨rfl,ks,sl2,hp,hsl,S2⟩
    have hres:Hid (ks.Perm (keysIn p0++keysIn p1)/\SliceHp 1 9 (.slice va n1 cc) ks.length (ks.map Value.string) sl2/\Step w0 [] w2 (sl2++(L++r))):=hid ⟨hp,by rw[hp.length_eq];exact hsl,S2⟩
    clear hs hp hsl S2
    go_wp2_with fail
    go_ret
    exact⟨_,ks,sl2,rfl,hres.out.1,hres.out.2.1,hres.out.2.2⟩
theorem tkeys_any {b c:Nat} {M:KV} (hS:Step w0 [] w (l++r)) (h:IsTable l b M c) (hM:M.length<=1000000000):
 Calls Tryz.prog 13 #[ptr b] w (fun e w'=>∃(v:Value) (ks:List ByteArray) (sl:Hp),e= .returned v/\ks.Perm (M.map Prod.fst)/\SliceHp 1 9 v ks.length (ks.map Value.string) sl/\Step w0 [] w' (sl++(l++r))):=by
 obtain⟨T,po,pf,hok,hmv,rfl⟩:=h
 obtain⟨c0,c1,c2,c3,c4,c5,_,_,_,_⟩:TabCells w b po pf T:=tabCells hS.own.head
 have hperm:(keysIn T.old.ps++keysIn T.fresh.ps).Perm (M.map Prod.fst):=by
  unfold keysIn;rw[<-List.map_append];exact hok.perm.map _
 have hlen:(keysIn T.old.ps++keysIn T.fresh.ps).length<=1000000000:=by rw[hperm.length_eq,List.length_map];exact hM
 have ho:RowAt w0 (TabHp b po pf T++r) (some ⟨po,0,none⟩) T.old.ps.length T.old.ps:=⟨rfl,hok.lenB,fun w' x hS' j hj=>⟨po,rfl,hS'.own.right.tail.head⟩⟩
 cases pf with
 |none=>
  have hz:T.fresh.ps=[]:=by rw[(hok.idle (by simpa using hmv)).1];rfl
  have hz2:T.fresh.ps.length=0:=by rw[hz];rfl
  simp only[slcV] at c3
  exact(tkeys_walk hS c0 c1 c2 c3 c4 c5 ho ⟨by rw[hz2],by omega,fun w' x hS' j hj=>by omega⟩ hlen).mono fun e w' ⟨v,ks,sl,he,hp,h⟩=>⟨v,ks,sl,he,hp.trans hperm,h⟩
 |some f=>
  simp only[slcV] at c3
  exact(tkeys_walk hS c0 c1 c2 c3 c4 c5 ho ⟨rfl,(hok.busy (by simpa using hmv)).2.2.1,fun w' x hS' j hj=>⟨f,rfl,hS'.own.right.tail.tail.head⟩⟩ hlen).mono fun e w' ⟨v,ks,sl,he,hp,h⟩=>⟨v,ks,sl,he,hp.trans hperm,h⟩
theorem skeys_any {sb:Nat} (hS:Step w0 [] w (l++r)) (hX:IsStore l sb S) (hl:S.L.length<=1000000000):
 ∃tb,w.cell? ⟨sb,0,none⟩=some (ptr tb)/\Calls Tryz.prog 13 #[ptr tb] w (fun e w'=>∃(v:Value) (ks:List ByteArray) (sl:Hp),e= .returned v/\ks.Perm (S.L.map Prod.fst)/\SliceHp 1 9 v ks.length (ks.map Value.string) sl/\Step w0 [] w' (l++(sl++r))):=by
 obtain⟨m,rfl,hok,hf⟩:=hX
 refine⟨m.tb,(stCells hS.own).c0,?_⟩
 have hM:(m.M.map Prod.fst).Perm (S.L.map Prod.fst):=by
  rw[hok.cells,List.map_map]
  have:=hok.num.map Prod.fst
  rwa[List.map_map] at this
 have hlen:m.M.length<=1000000000:=by
  have:=hM.length_eq
  rw[List.length_map,List.length_map] at this
  omega
 obtain⟨R,hR⟩:∃R:Hp,(m.hp sb (bytesOf S.L) S.bud).Perm (m.tl++R):=⟨_,by
  unfold SM.hp SM.rest
  exact List.perm_middle.symm⟩
 have hS2:Step w0 [] w (m.tl++(R++r)):=hS.permR (by rw[<-List.append_assoc];exact hR.append_right r)
 refine(tkeys_any hS2 hok.tab hlen).mono ?_
 rintro e w' ⟨v,ks,sl,rfl,hp,hsl,S3⟩
 refine⟨v,ks,sl,rfl,hp.trans hM,hsl,S3.permR ?_⟩
 have h:=(hR.symm.append_right r).append_left sl|>.trans (List.perm_append_comm_assoc ..)
 simpa using h
theorem evOne {T:TypeId} {el:Hp} {u:List Value} {a b:Value} (h:SliceHp 2 T v 1 u el) (hu:u=[a,b]):∃g cap rest,v= .slice (some ⟨g,0,none⟩) 1 cap/\el=[(g,.cells ([a,b]++rest).toArray T (0,0))]:=by
 subst hu
 cases h with
 |laid g n cap xs rest hx hr hn hc=>exact⟨g,cap,rest,rfl,rfl⟩
theorem ealive_c1:wcheck [⟨#[83,69,84]⟩,kk,kv]=(spSET,ByteArray.empty):=by kernel_rfl
theorem ealive_c2:wcheck [⟨#[69,88,80,73,82,69]⟩,kk,⟨#[45,49]⟩]=(spEXPIRE,ByteArray.empty):=by kernel_rfl
theorem ealive_2:eExpire (eYes [] []) 0 kk ⟨#[45,49]⟩ 1000=(eNo [(2,kk)],lfYes true):=by kernel_rfl
theorem Step.told {x e:Hp} (h:Step w0 [] w (l++(x++(e++r)))):Step w0 [] w (l++r):=h.pick (m:=x++e) (perm_by fun f=>by simp only[SC];omega)
theorem ealive_any (hS:Step w0 [] w r) (hG:Glob w0):
 Calls Tryz.prog 6 #[] w (fun e w'=>e= .returned (.bool true)/\Step w0 [] w' r):=by
 have hnew:=hid (snew_any hS 10000)
 replace hG:=hid hG
 clear hS
 go_enter Tryz.func6,Tryz.ntmps6
 go_wp2_with fail
 refine hnew.out.mono ?_
 rintro e w1 ⟨sb,l1,rfl,hX1,S1⟩
 clear hnew
 have hdo:Calls Tryz.prog 9 #[ptr sb,.int .i64 0,.slice (some ⟨w1.heap.size,0,none⟩) 3 3] (w1.alloc (WsObj [⟨#[83,69,84]⟩,kk,kv])) (RunEnd w0 (r) sb (eYes [] [(1,kk)]) 1 ⟨#[79,75]⟩ 0 []):=by
  have q:=xrun_SET S1 hG.out hX1 ⟨newSt_tight _,by decide⟩ (by decide) ealive_c1 (now:=0) (by decide)
  rw[e_set'] at q
  exact q
 replace hdo:=hid hdo
 clear S1 hX1
 go_wp2_with fail
 refine hdo.out.mono ?_
 rintro e w2 ⟨a2,c2,ev2,xl2,el2,l2,rfl,hxl2,hev2,hX2,S2⟩
 clear hdo hxl2
 replace S2:=S2.told
 replace hX2:IsStore l2 sb (eYes [] []):=hX2
 clear hev2
 have hdo:Calls Tryz.prog 9 #[ptr sb,.int .i64 0,.slice (some ⟨w2.heap.size,0,none⟩) 3 3] (w2.alloc (WsObj [⟨#[69,88,80,73,82,69]⟩,kk,⟨#[45,49]⟩])) (RunEnd w0 (r) sb (eNo [(2,kk)]) 3 ByteArray.empty 1 []):=by
  have q:=xrun_EXPIRE S2 hG.out hX2 (eYes_ok _ _ (by decide)) (by decide) ealive_c2 (now:=0) (by decide)
  rw[ealive_2] at q
  exact q
 replace hdo:=hid hdo
 clear S2 hX2
 go_wp2_with fail
 refine hdo.out.mono ?_
 rintro e w3 ⟨a3,c3,ev3,xl3,el3,l3,rfl,hxl3,hev3,hX3,S3⟩
 clear hdo hxl3
 obtain⟨g,cap,rest,rfl,rfl⟩:=evOne hev3 (a:=.int .i64 2) (b:=.string kk) rfl
 replace hX3:IsStore l3 sb (eNo []):=hX3
 clear hev3
 unfold ansVal
 go_upto_region 6 with fail
 have S4:=S3.alloc (ValObj 3 ByteArray.empty 1 (.slice a3 0 c3))
 generalize hw4:w3.alloc _=w4
 replace S4:Step w0 [] w4 _:=hw4▸S4
 clear hw4 S3
 generalize w3.heap.size=vb at S4⊢
 have v0:w4.cell? ⟨vb,0,none⟩=some (.int .i64 3):=cells_get S4.own.head 0
 have v2:w4.cell? ⟨vb,2,none⟩=some (.int .i64 1):=cells_get S4.own.head 2
 have hgm:=S4.own.at_ (g,.cells ([Value.int .i64 2,Value.string kk]++rest).toArray 41 (0,0)) (by simp)
 have g0:w4.cell? ⟨g,0,none⟩=some (.int .i64 2):=by rw[cells_get hgm];rfl
 have g1:w4.cell? ⟨g,1,none⟩=some (.string kk):=by rw[cells_get hgm];rfl
 obtain⟨m,rfl,hok,hf⟩:=hX3
 have S5:=S4.permR (l2:=m.hp sb (bytesOf (eNo []).L) (eNo []).bud++((vb,ValObj 3 ByteArray.empty 1 (.slice a3 0 c3))::(xl3++((g,.cells ([Value.int .i64 2,Value.string kk]++rest).toArray 41 (0,0))::r)))) (perm_by fun f=>by simp only[SC];omega)
 have s0:=(stCells S5.own).c0
 have htl:=tlen_any m.tl m.tb m.M 0 w4 hok.tab (SM.ownT S5.own)
 have hM:m.M.length=0:=by
  have h1:=hok.num.length_eq
  have h2:m.cs=[]:=List.map_eq_nil_iff.1 hok.cells.symm
  rw[h2] at h1;exact h1
 rw[hM] at htl
 have S9:=hid (S4.pick (l2:=r) (m:=(vb,ValObj 3 ByteArray.empty 1 (.slice a3 0 c3))::(m.hp sb (bytesOf (eNo []).L) (eNo []).bud++(xl3++[(g,.cells ([Value.int .i64 2,Value.string kk]++rest).toArray 41 (0,0))]))) (perm_by fun f=>by simp only[SC];omega))
 replace htl:=hid htl
 clear S4 S5 hok hf hM hgm
 go_wp2_with fail
 refine htl.out.mono ?_
 rintro e w5 ⟨rfl,nd,rfl⟩
 clear htl
 go_wp2_with fail
 go_ret
 exact⟨rfl,S9.out.drewN _⟩
theorem due_up (h:DUp S) (k:ByteArray):S.due k 0=S:=by
 unfold St.due
 cases hl:mlook S.D k with
 |none=>rfl
 |some t=>
  have:=(h _ (mlook_some hl)).1
  simp only
  rw[if_neg (by simp only at this;omega)]
abbrev wDB:ByteArray:=⟨#[68,66,83,73,90,69]⟩
abbrev wEX:ByteArray:=⟨#[69,88,73,83,84,83]⟩
abbrev wDEL:ByteArray:=⟨#[68,69,76]⟩
theorem counts_db:wcheck [wDB]=(spDBSIZE,ByteArray.empty):=by kernel_rfl
theorem wcheck_at (n:Nat) {c:ByteArray} {ws:List ByteArray} {sp:Sp} (hn:ws.length=n) (hf:wfind c=some sp) (h1:sp.least<=(n:Int)+1) (h2:(n:Int)+1<=sp.most) (h3:isOdd sp.name ((n:Int)+1)=false):wcheck (c::ws)=(sp,ByteArray.empty):=by
 rw[wcheck]
 simp only[hf,List.length_cons,hn]
 rw[if_neg]
 push_cast
 rw[h3]
 simp only[Bool.false_eq_true,or_false]
 omega
theorem counts_ex2 (k m:ByteArray):wcheck [wEX,k,m]=(spEXISTS,ByteArray.empty):=wcheck_at 2 rfl (by kernel_rfl) (by decide) (by decide) (by decide+kernel)
theorem counts_ex1 (k:ByteArray):wcheck [wEX,k]=(spEXISTS,ByteArray.empty):=wcheck_at 1 rfl (by kernel_rfl) (by decide) (by decide) (by decide+kernel)
theorem counts_del (k m:ByteArray):wcheck [wDEL,k,m]=(spDEL,ByteArray.empty):=wcheck_at 2 rfl (by kernel_rfl) (by decide) (by decide) (by decide+kernel)
theorem told_same (h:S.ev=[]):({S with ev:=[]}:St)=S:=by cases S;simp_all
theorem counts_there (hD:DUp S) (hk:k∈S.L.map Prod.fst):eExists S 0 [k,k]=(S,lfInt 2):=by
 have h:=mlook_iff.2 hk
 simp only[eExists,eCount,thereOf,due_up hD,h,if_true]
 rfl
theorem counts_gone (hD:DUp S) (hk:k∉S.L.map Prod.fst):eExists S 0 [k]=(S,lfInt 0):=by
 have h:(mlook S.L k).isSome=false:=by
  cases hl:mlook S.L k with
  |none=>rfl
  |some v=>exact absurd (mlook_iff.1 (by rw[hl];rfl)) hk
 simp only[eExists,eCount,thereOf,due_up hD,h]
 rfl
theorem counts_drop (hD:DUp S) (hk:k∈S.L.map Prod.fst):eDel S 0 [k,k]=({S with L:=mdel S.L k,D:=mdel S.D k,ev:=S.ev++[(2,k)]},lfInt 1):=by
 have h:=mlook_iff.2 hk
 have hg:S.gone k 2={S with L:=mdel S.L k,D:=mdel S.D k,ev:=S.ev++[(2,k)]}:=by unfold St.gone;rw[if_pos h]
 have hD1:=hD.gone k 2
 have hn:(S.gone k 2).gone k 2=S.gone k 2:=gone_no (by rw[hg];exact mlook_mdel_same)
 have hl:(mlook (S.gone k 2).L k).isSome=false:=by rw[hg];simp only[mlook_mdel_same];rfl
 simp only[eDel,eCount,delOf,due_up hD,due_up hD1,h,hl,hn,if_true]
 rw[hg];rfl
def CallPost (w0:World) (r:Hp) (sb:Nat) (S:St) (B:Nat) (n:Int) (m:Nat) (e:Ending) (w':World):Prop:=
 ∃(a:Option Addr) (c:Nat) (va:Option Addr) (cv:Nat) (l':Hp),e= .returned (.tuple #[ansVal 3 ByteArray.empty n (.slice a 0 c),.slice va m cv])/\Rest w0 w' l' r sb S B
theorem ev_shape {n:Nat} {xs:List Value} (h:SliceHp 2 41 v n xs l):∃va cv,v= .slice va n cv:=by
 cases h with
 |nil=>exact⟨_,_,rfl⟩
 |laid g _ cap _ rest _ _ _ _=>exact⟨_,cap,rfl⟩
theorem call_post {w':World} {sb:Nat} {T:St} {B:Nat} {ws:List ByteArray} {e:Ending} {n:Int} (R:Rest w0 w' l r sb S B\/True) (hf:Fit S) (hok:Tight S/\DUp S/\S.ev=[]/\S.bud=B) (hp:RunAny w0 r sb (Out S 0 ws) e w') (ho:∀o,Out S 0 ws o->o=resLf (T,lfInt n)):CallPost w0 r sb {T with ev:=[]} B n T.ev.length e w':=by
 obtain⟨o,a9,c9,ev,l6,xl,el,rfl,h1,_,h2,_,R6⟩:=hp.next hf hok.1 hok.2.1 (by decide)
 have h3:=ho o h1
 subst h3
 obtain⟨va,cv,rfl⟩:=ev_shape h2
 have q:=R6.gone
 rw[hok.2.2.2] at q
 exact⟨a9,c9,va,cv,l6,rfl,q⟩
section
variable {w0 w:World} {l r:Hp} {sb:Nat} {S:St} {B:Nat} {k:ByteArray}
theorem Rest.key (h:Rest w0 w l r sb S B) (hk:k∈S.L.map Prod.fst):k.size<=1099511627776:=by
 obtain⟨p,hp,rfl⟩:=List.mem_map.1 hk
 have:=(h.is.fit.key p hp).1
 omega
theorem Rest.with_ (h:Rest w0 w l r sb S B) (o:Obj):Rest w0 (w.alloc o) l ((w.heap.size,o)::r) sb S B:=
 ⟨(h.st.alloc o).permR (perm_by fun f=>by simp only[SC];omega),h.is,h.ok⟩
theorem Rest.without_ {p:Nat×Obj} (h:Rest w0 w l (p::r) sb S B):Rest w0 w l r sb S B:=⟨h.st.letGo,h.is,h.ok⟩
theorem call_db (hF:FAll w0) (h:Rest w0 w l r sb S B):Calls Tryz.prog 9 #[ptr sb,.int .i64 0,.slice (some ⟨w.heap.size,0,none⟩) 1 1] (w.alloc (WsObj [wDB])) (CallPost w0 r sb S B S.L.length 0):=
 (run_new hF h wDB [] (by decide) (by decide) 0 (by decide)).mono fun e w' hp=>by
  have q:=call_post (T:=S) (.inr trivial:Rest w0 w' l r sb S B\/True) h.is.fit h.ok hp (fun o ho=>ran_DBSIZE (ho.ran counts_db (by kernel_rfl)))
  rwa[told_same h.ok.2.2.1,h.ok.2.2.1] at q
theorem call_there (hF:FAll w0) (h:Rest w0 w l r sb S B) (hk:k∈S.L.map Prod.fst):Calls Tryz.prog 9 #[ptr sb,.int .i64 0,.slice (some ⟨w.heap.size,0,none⟩) 3 3] (w.alloc (WsObj [wEX,k,k])) (CallPost w0 r sb S B 2 0):=
 (run_new hF h wEX [k,k] (by simp) (by have:=h.key hk;simp only[List.forall_mem_cons,List.not_mem_nil,false_implies,implies_true,and_true];exact⟨by decide,this,this⟩) 0 (by decide)).mono fun e w' hp=>by
  have q:=call_post (T:=S) (n:=2) (.inr trivial:Rest w0 w' l r sb S B\/True) h.is.fit h.ok hp (fun o ho=>by rw[ran_EXISTS (ho.ran (counts_ex2 k k) (by kernel_rfl)),counts_there h.ok.2.1 hk])
  rwa[told_same h.ok.2.2.1,h.ok.2.2.1] at q
theorem call_gone (hF:FAll w0) (h:Rest w0 w l r sb S B) (hk:k∉S.L.map Prod.fst) (hs:k.size<=1099511627776):Calls Tryz.prog 9 #[ptr sb,.int .i64 0,.slice (some ⟨w.heap.size,0,none⟩) 2 2] (w.alloc (WsObj [wEX,k])) (CallPost w0 r sb S B 0 0):=
 (run_new hF h wEX [k] (by simp) (by simp only[List.forall_mem_cons,List.not_mem_nil,false_implies,implies_true,and_true];exact⟨by decide,hs⟩) 0 (by decide)).mono fun e w' hp=>by
  have q:=call_post (T:=S) (n:=0) (.inr trivial:Rest w0 w' l r sb S B\/True) h.is.fit h.ok hp (fun o ho=>by rw[ran_EXISTS (ho.ran (counts_ex1 k) (by kernel_rfl)),counts_gone h.ok.2.1 hk])
  rwa[told_same h.ok.2.2.1,h.ok.2.2.1] at q
def St.less (S:St) (k:ByteArray):St:={S with L:=mdel S.L k,D:=mdel S.D k,ev:=[]}
theorem call_drop (hF:FAll w0) (h:Rest w0 w l r sb S B) (hk:k∈S.L.map Prod.fst):Calls Tryz.prog 9 #[ptr sb,.int .i64 0,.slice (some ⟨w.heap.size,0,none⟩) 3 3] (w.alloc (WsObj [wDEL,k,k])) (CallPost w0 r sb (S.less k) B 1 1):=
 (run_new hF h wDEL [k,k] (by simp) (by have:=h.key hk;simp only[List.forall_mem_cons,List.not_mem_nil,false_implies,implies_true,and_true];exact⟨by decide,this,this⟩) 0 (by decide)).mono fun e w' hp=>by
  have q:=call_post (T:={S with L:=mdel S.L k,D:=mdel S.D k,ev:=S.ev++[(2,k)]}) (n:=1) (.inr trivial:Rest w0 w' l r sb S B\/True) h.is.fit h.ok hp (fun o ho=>by rw[ran_DEL (ho.ran (counts_del k k) (by kernel_rfl)),counts_drop h.ok.2.1 hk])
  have e1:(S.ev++[(2,k)]).length=1:=by rw[h.ok.2.2.1];rfl
  simp only[e1] at q
  exact q
theorem ws_cell {va:Option Addr} {n cc j:Nat} {ks:List ByteArray} {sl x:Hp} (hsl:SliceHp 1 9 (.slice va n cc) ks.length (ks.map Value.string) sl) (hS:Step w0 [] w (x++(sl++r))) (hj:ks[j]? =some k):∃g,va=some ⟨g,0,none⟩/\w.cell? ⟨g,j,none⟩=some (.string k):=by
 obtain⟨v,hv⟩:∃v,v=Value.slice va n cc:=⟨_,rfl⟩
 obtain⟨m,hm⟩:∃m,m=ks.length:=⟨_,rfl⟩
 obtain⟨xs,hxs⟩:∃xs,xs=ks.map Value.string:=⟨_,rfl⟩
 rw[<-hv,<-hm,<-hxs] at hsl
 have hjl:j<ks.length:=(List.getElem?_eq_some_iff.1 hj).1
 cases hsl with
 |nil=>omega
 |laid g _ cap _ rest _ _ _ _=>
  simp only[Value.slice.injEq] at hv
  refine⟨g,hv.1.symm,?_⟩
  rw[cells_get hS.own.right.head,hxs,List.getElem?_toArray,List.getElem?_append_left (by simpa using hjl),List.getElem?_map,hj]
  rfl
end
theorem lawCounts (hS:Step w0 [] w r) (hF:FAll w0) {acts:List ActM} (h:ActsAt w0 v acts):
 Calls Tryz.prog 5 #[v] w (fun e w'=>e= .returned (.bool true)/\Step w0 [] w' r):=by
 have halive:=hid (ealive_any hS hF.gl)
 have hgreat:Hid (∀w',Step w0 [] w' r->Calls Tryz.prog 7 #[v,.int .i64 30] w' (GreatPost w0 r 30 acts)):=hid fun w' hS'=>great_any hS' h 30 (by decide)
 have hnew:Hid (∀w',Step w0 [] w' r->Calls Tryz.prog 8 #[.int .i64 100000] w' (SNewPost w0 r 100000)):=hid fun w' hS'=>snew_any hS' 100000
 obtain⟨a,cap,rfl,hc1,hc2,hel⟩:=h
 obtain⟨n,hn⟩:∃n,n=acts.length:=⟨_,rfl⟩
 rw[<-hn] at hc1 hgreat⊢
 replace hn:=hid hn
 replace hel:=hid hel
 replace hF:=hid hF
 clear hS
 go_enter Tryz.func5,Tryz.ntmps5
 go_wp2_with fail
 refine halive.out.mono ?_
 rintro e wa ⟨rfl,S0⟩
 clear halive
 have hg:=hid (hgreat.out _ S0)
 clear hgreat S0
 go_wp2_with fail
 refine hg.out.mono ?_
 rintro e wb ⟨big,rfl,hfew,S0⟩
 clear hg
 replace hfew:=hid hfew
 cases big with
 |true=>
  replace S0:=hid S0
  go_wp2_with fail
  go_ret
  exact⟨rfl,S0.out⟩
 |false=>
 replace hfew:=hid (hfew.out rfl)
 have hnew0:=hid (hnew.out _ S0)
 clear hnew S0
 go_wp2_with fail
 refine hnew0.out.mono ?_
 rintro e w1 ⟨sb,l1,rfl,hX1,S1⟩
 clear hnew0
 have R1:Hid (Rest w0 w1 l1 r sb (newSt 100000) 100000):=hid ⟨S1,hX1,newSt_tight _,fun p hp=>by simp[newSt] at hp,rfl,by decide⟩
 clear hX1 S1
 go_wp2_with fail
 go_loopw [5,26] (fun s5 s26 wr=>∃(k:Nat) (S:St) (l:Hp),s26= .int .i64 k/\k<=n/\Hid (Rest w0 wr l r sb S 100000)) (fun s5 s26 wr=>(n - intOf s26).toNat)
 case atStart=>exact⟨0,_,l1,rfl,Nat.zero_le _,R1⟩
 case round=>
  obtain⟨k,S,l,rfl,hk,R2⟩:=hrel
  clear R1
  by_cases hlt:k<n
  ·obtain⟨x,hx⟩:∃x,acts[k]? =some x:=⟨acts[k]'(by rw[<-hn.out];exact hlt),List.getElem?_eq_getElem _⟩
   obtain⟨hw,hwait,g,off,rfl,hg,c0,c1⟩:=hel.out k x hx
   replace c0:=R2.out.st.in_ hg c0
   replace c1:=R2.out.st.in_ hg c1
   have hx2:=hfew.out.2 x (List.mem_of_getElem? hx)
   obtain⟨xv,ws,wait⟩:=x
   simp only at hw c0 c1 hwait hx2
   have hwv:=hw
   obtain⟨wa2,wc,hxv,hw1,hw2,hwel⟩:=hw
   obtain⟨m,hm⟩:∃m,m=ws.length:=⟨_,rfl⟩
   rw[<-hm] at hxv
   subst hxv
   have hrun:Hid (∀w',Rest w0 w' l r sb S 100000->Calls Tryz.prog 9 #[ptr sb,.int .i64 0,.slice wa2 m wc] w' (RunAny w0 r sb (Out S 0 ws))):=hid fun w' hR=>run_act hF.out hR hwv hx2 0 (by decide)
   have hlt3:(k:Int)<(n:Int):=by omega
   clear hw1 hw2 hwel hwv hm hx2 hx
   go_upto_region 9 with fail
   have R3:Rest w0 (wr.alloc (.cells #[.slice wa2 m wc,.int .u16 wait] 28)) l r sb S 100000:=⟨((R2.out.st.alloc _).less (List.sublist_cons_self _ _)),R2.out.is,R2.out.ok⟩
   have q0:(wr.alloc (.cells #[.slice wa2 m wc,.int .u16 wait] 28)).cell? ⟨wr.heap.size,0,none⟩=some (.slice wa2 m wc):=cells_get (R2.out.st.alloc (.cells #[.slice wa2 m wc,.int .u16 wait] 28)).own.head 0
   generalize hww:wr.alloc _=w3 at R3 q0⊢
   clear hww c0 c1 R2
   generalize wr.heap.size=ab at q0⊢
   have hcall:=hid (hrun.out w3 R3)
   have hR3:=hid R3
   clear hrun R3
   go_wp2_with fail
   refine hcall.out.mono ?_
   rintro e w4 hp
   obtain⟨o,a9,c9,ev,l4,xl,el,rfl,_,_,_,_,R4⟩:=hp.next hR3.out.is.fit hR3.out.ok.1 hR3.out.ok.2.1 (by decide)
   have R5:=hid (R4.gone)
   rw[hR3.out.ok.2.2.2] at R5
   clear hcall hp R4 hR3
   unfold ansVal
   go_wp2_with fail
   go_roundw
   case rel=>exact⟨k+1,_,l4,by go_num,hlt,R5⟩
   case measure=>simp[intOf];omega
  ·have hge:¬(k:Int)<(n:Int):=by omega
   have hL:S.L.length<=1000000000:=by
    have h1:=bytes_ge S.L
    have h2:=R2.out.ok.1
    have h3:=R2.out.ok.2.2.2
    unfold Tight at h2
    omega
   obtain⟨tb,s0,hkeys⟩:=skeys_any R2.out.st R2.out.is hL
   replace hkeys:=hid hkeys
   clear hL hlt
   go_wp2_with fail
   refine hkeys.out.mono ?_
   rintro e w5 ⟨vk,ks,sl,rfl,hperm,hsl,S5⟩
   have R5:Rest w0 w5 l (sl++r) sb S 100000:=⟨S5,R2.out.is,R2.out.ok⟩
   clear hkeys s0 R2 S5
   have hkl:ks.length=S.L.length:=by rw[hperm.length_eq,List.length_map]
   obtain⟨nk,hnk⟩:∃nk,nk=ks.length:=⟨_,rfl⟩
   have hsh:∃va cc,vk= .slice va nk cc:=by
    rw[<-hnk] at hsl
    obtain⟨xs,hxs⟩:∃xs,xs=ks.map Value.string:=⟨_,rfl⟩
    rw[<-hxs] at hsl
    cases hsl with
    |nil=>exact⟨_,_,rfl⟩
    |laid g _ cap _ rest _ _ _ _=>exact⟨_,cap,rfl⟩
   obtain⟨va,cc,rfl⟩:=hsh
   have hdb:=call_db hF.out R5
   have hndk:ks.Nodup:=hperm.nodup_iff.2 R5.is.fit.nd
   have hsz:∀k∈ks,k.size<=1099511627776:=fun k hk=>R5.key (hperm.mem_iff.1 hk)
   rw[<-hkl,<-hnk] at hdb
   replace hdb:=hid hdb
   have hp0:Hid ((S.L.map Prod.fst).Perm (ks.drop 0)):=hid hperm.symm
   have hnk2:nk<=1000000000:=by
    have h1:=bytes_ge S.L
    have h2:=R5.ok.1
    have h3:=R5.ok.2.2.2
    unfold Tight at h2
    omega
   replace hsl:=hid hsl
   replace hnk:=hid hnk
   replace hndk:=hid hndk
   replace hsz:=hid hsz
   clear R5 hkl hperm hel
   go_wp2_with fail
   refine hdb.out.mono ?_
   rintro e w6 ⟨a9,c9,va9,cv9,l6,rfl,R6⟩
   clear hdb
   unfold ansVal
   go_upto_region 13 with fail
   have q2:(w6.alloc (ValObj 3 ByteArray.empty nk (.slice a9 0 c9))).cell? ⟨w6.heap.size,2,none⟩=some (.int .i64 nk):=cells_get (R6.st.alloc (ValObj 3 ByteArray.empty nk (.slice a9 0 c9))).own.head 2
   have R7:Rest w0 (w6.alloc (ValObj 3 ByteArray.empty nk (.slice a9 0 c9))) l6 (sl++r) sb S 100000:=⟨((R6.st.alloc _).less (List.sublist_cons_self _ _)),R6.is,R6.ok⟩
   generalize hww:w6.alloc _=w7 at R7 q2⊢
   clear hww R6
   generalize w6.heap.size=ab at q2⊢
   replace R7:=hid R7
   go_wp2_with fail
   clear q2
   go_loopw [10,11,12,13,14,15,16,53] (fun s10 s11 s12 s13 s14 s15 s16 s53 wr=>∃(j:Nat) (S:St) (l:Hp),s53= .int .i64 j/\j<=nk/\Hid ((S.L.map Prod.fst).Perm (ks.drop j))/\Hid (Rest w0 wr l (sl++r) sb S 100000)) (fun s10 s11 s12 s13 s14 s15 s16 s53 wr=>(nk - intOf s53).toNat)
   case atStart=>exact⟨0,S,l6,rfl,Nat.zero_le _,hp0,R7⟩
   case round=>
    obtain⟨j,S3,l3,rfl,hj,hp3,R8⟩:=hrel
    clear R7 hp0
    by_cases hjt:j<nk
    ·have hjt3:(j:Int)<(nk:Int):=by omega
     obtain⟨k2,hk2⟩:∃k2,ks[j]? =some k2:=⟨ks[j]'(by rw[<-hnk.out];exact hjt),List.getElem?_eq_getElem _⟩
     obtain⟨kg,rfl,kc⟩:=ws_cell hsl.out R8.out.st hk2
     have hdrop:ks.drop j=k2::ks.drop (j+1):=by
      rw[List.drop_eq_getElem_cons (by rw[<-hnk.out];exact hjt),(List.getElem?_eq_some_iff.1 hk2).2]
     have hin:k2∈S3.L.map Prod.fst:=hp3.out.mem_iff.2 (by rw[hdrop];simp)
     have hks:=hsz.out k2 (List.mem_of_getElem? hk2)
     have hS4:Hid (∀w' l',Rest w0 w' l' (sl++r) sb (S3.less k2) 100000->k2∉(S3.less k2).L.map Prod.fst):=hid fun _ _ _ hm=>(mdel_fst.1 hm).2 rfl
     have hp4:Hid (((S3.less k2).L.map Prod.fst).Perm (ks.drop (j+1))):=hid (by
      have h1:((S3.less k2).L.map Prod.fst)=(S3.L.map Prod.fst).filter (fun x=>decide (x≠k2)):=by
       show(mdel S3.L k2).map Prod.fst=_
       rw[mdel,List.filter_map];rfl
      rw[h1]
      refine(hp3.out.filter _).trans ?_
      have hnd:=(List.drop_sublist j ks).nodup hndk.out
      rw[hdrop] at hnd⊢
      rw[List.filter_cons]
      simp only[ne_eq,not_true,decide_false,Bool.false_eq_true,if_false]
      rw[List.filter_eq_self.2]
      intro x hx
      simp only[decide_eq_true_eq]
      intro he
      rw[he] at hx
      exact(List.nodup_cons.1 hnd).1 hx)
     have hth:=hid (call_there hF.out R8.out hin)
     replace hin:=hid hin
     replace hks:=hid hks
     clear hk2 hdrop R8 hp3
     go_wp2_with fail
     refine hth.out.mono ?_
     rintro e w8 ⟨b1,d1,vb1,e1,l4,rfl,R9⟩
     clear hth kc
     unfold ansVal
     go_upto_region 19 with fail
     have R10:=R9.with_ (ValObj 3 ByteArray.empty 2 (.slice b1 0 d1))
     generalize hww:w8.alloc _=w9 at R10⊢
     clear hww R9
     generalize w8.heap.size=xa at R10⊢
     have hdl:=hid (call_drop hF.out R10 hin.out)
     clear R10
     go_wp2_with fail
     refine hdl.out.mono ?_
     rintro e w10 ⟨b2,d2,vb2,e2,l5,rfl,R11⟩
     clear hdl
     unfold ansVal
     go_upto_region 20 with fail
     have R12:=R11.with_ (ValObj 3 ByteArray.empty 1 (.slice b2 0 d2))
     generalize hww:w10.alloc _=w11 at R12⊢
     clear hww R11
     generalize w10.heap.size=xb at R12⊢
     have hgn:=hid (call_gone hF.out R12 (fun hm=>(mdel_fst.1 hm).2 rfl) hks.out)
     clear R12
     go_wp2_with fail
     refine hgn.out.mono ?_
     rintro e w12 ⟨b3,d3,vb3,e3,l9,rfl,R13⟩
     clear hgn
     unfold ansVal
     go_upto_region 21 with fail
     have R14:=R13.with_ (ValObj 3 ByteArray.empty 0 (.slice b3 0 d3))
     generalize hww:w12.alloc _=w13 at R14⊢
     clear hww R13
     generalize w12.heap.size=xc at R14⊢
     have y3:w13.cell? ⟨xc,2,none⟩=some (.int .i64 0):=cells_get R14.st.own.right.head 2
     have y2:w13.cell? ⟨xb,2,none⟩=some (.int .i64 1):=cells_get R14.st.own.right.tail.head 2
     have y1:w13.cell? ⟨xa,2,none⟩=some (.int .i64 2):=cells_get R14.st.own.right.tail.tail.head 2
     have R15:Hid (Rest w0 w13 l9 (sl++r) sb (S3.less k2) 100000):=hid (R14.without_.without_.without_)
     clear R14 hS4
     go_wp2_with fail
     go_roundw
     case rel=>exact⟨j+1,S3.less k2,l9,by go_num,hjt,hp4,R15⟩
     case measure=>simp[intOf];omega
    ·have hge2:¬(j:Int)<(nk:Int):=by omega
     have hLe:S3.L=[]:=by
      have h1:=hp3.out
      rw[List.drop_eq_nil_of_le (by rw[<-hnk.out];omega)] at h1
      exact List.map_eq_nil_iff.1 h1.eq_nil
     have hdb:=call_db hF.out R8.out
     rw[hLe,show(([]:AL Itm).length:Int)=0 from rfl] at hdb
     replace hdb:=hid hdb
     clear hp3 R8
     go_wp2_with fail
     refine hdb.out.mono ?_
     rintro e w8 ⟨a8,c8,va8,cv8,l8,rfl,R9⟩
     clear hdb
     unfold ansVal
     go_upto_region 25 with fail
     have R10:=R9.with_ (ValObj 3 ByteArray.empty 0 (.slice a8 0 c8))
     generalize hww:w8.alloc _=w9 at R10⊢
     clear hww R9
     generalize w8.heap.size=xa at R10⊢
     have y1:w9.cell? ⟨xa,2,none⟩=some (.int .i64 0):=cells_get R10.st.own.right.head 2
     have hend:Hid (Step w0 [] w9 r):=hid (R10.st.pick (l2:=r) (m:=l8++((xa,ValObj 3 ByteArray.empty 0 (.slice a8 0 c8))::sl)) (perm_by fun f=>by simp only[SC];omega))
     obtain⟨mm,rfl,hok,hf⟩:=R10.is
     have hby:=bytes_any R10.st.own
     rw[hLe,show((bytesOf []:Nat):Int)=0 from rfl] at hby
     replace hby:=hid hby
     clear R10 hok hf hLe
     go_wp2_with fail
     refine hby.out.mono ?_
     rintro e w10 ⟨rfl,rfl⟩
     clear hby
     go_wp2_with fail
     go_ret
     exact⟨rfl,hend.out⟩
end Go.Proofs.YtlbjfafbahphgaaGreatDoor
