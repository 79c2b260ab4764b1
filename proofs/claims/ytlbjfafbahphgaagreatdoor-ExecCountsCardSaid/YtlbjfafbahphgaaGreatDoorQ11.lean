/-
table.made, table.New: a new table holds nothing; (*Table).Len.
-/
import Derived.StillTail
import Derived.WalkKit
import Derived.Test.YtlbjfafbahphgaaGreatDoorQ05
import Derived.Test.YtlbjfafbahphgaaGreatDoorQ10
set_option linter.unusedVariables false
set_option linter.unusedSimpArgs false
set_option maxRecDepth 100000
set_option maxHeartbeats 8000000
namespace Go.Proofs.YtlbjfafbahphgaaGreatDoor
open Go Go.RowKit
variable {w0 w:World}{l:Hp}{b po d:Nat}{T:Tb}{ds:List Nat}
theorem madeCells_places (n:Nat):madeCells (Value.cells (.agg #[.int .i64 0,.string ByteArray.empty,.int .i64 0])) (n*3)=(plCells (List.replicate n emptyPl)).toArray:=by
 apply Array.ext_getElem?
 intro m
 obtain⟨a,j,hj,rfl⟩:∃a j,j<3/\m=a*3+j:=⟨m/3,m%3,Nat.mod_lt _ (by omega),by omega⟩
 have h2:(plCells (List.replicate n emptyPl)).toArray[a*3+j]? =(plCells (List.replicate n emptyPl))[a*3+j]? :=by simp
 rw[h2,plCells_get _ _ _ hj,List.length_replicate]
 simp only[madeCells,Value.cells,Array.getElem?_map,Array.getElem?_range]
 by_cases ha:a<n
 ·have hr:plAt (List.replicate n emptyPl) a=emptyPl:=by simp[plAt,List.getD,List.getElem?_replicate,ha]
  rw[if_pos ha,if_pos (by omega),hr]
  have e:(a*3+j)%3=j:=by omega
  obtain rfl|rfl|rfl:j=0\/j=1\/j=2:=by omega
  all_goals simp[e,plVals,emptyPl]
 ·rw[if_neg ha,if_neg (by omega)];rfl
theorem placeInfo:(Tryz.prog.info? 86).map (fun i=>(i.zero,i.size,i.bytes))=some (some (.agg #[.int .i64 0,.string ByteArray.empty,.int .i64 0]),3,32):=by kernel_rfl
theorem made_any (n:Nat) (w:World) (hB:n<=1099511627776):
 Calls Tryz.prog 34 #[.int .i64 n] w fun e w'=>∃pb,e= .returned (.agg #[.slice (some ⟨pb,0,none⟩) n n,.int .i64 0,.int .i64 0])/\Step w [] w' [(pb,PlObj (List.replicate n emptyPl))]:=by
 obtain⟨i,hi,hz,hsz,hby⟩:=info_parts placeInfo
 have hmk:∀w,(Instr.makeSlice 79 (.int .i64 (n:Int)) (.int .i64 (n:Int))).run Tryz.prog w= .ok (.slice (some ⟨w.heap.size,0,none⟩) n n) (w.alloc (PlObj (List.replicate n emptyPl))):=by
  intro w
  have:=run_make (P:=Tryz.prog) w 79 86 i _ Tryz.underlying79 hi hz .i64 .i64 n n (by omega) (by omega) (by rw[hby];omega) (by omega)
  rw[hsz,Int.toNat_natCast,madeCells_places] at this
  exact this
 clear hz hsz hby hi
 go_enter Tryz.func34,Tryz.ntmps34
 go_wp2_with fail
 have S1:=((Step.refl (Own.nil w)).alloc (.cells #[.slice (some ⟨w.heap.size+1,0,none⟩) n n,.int .i64 0,.int .i64 0] 81)).alloc (PlObj (List.replicate n emptyPl))
 exact bodyPost_ret (v:=.agg #[.slice (some ⟨w.heap.size+1,0,none⟩) n n,.int .i64 0,.int .i64 0]) (by simp[results,Tryz.results34,go_sem]) rfl
  ⟨w.heap.size+1,rfl,by simpa using S1.less (List.Sublist.cons_cons _ (List.nil_sublist _))⟩
theorem tnew_any (w:World):Calls Tryz.prog 19 #[] w fun e w'=>∃b l',e= .returned (.pointer (some ⟨b,0,none⟩))/\IsTable l' b [] 0/\Step w [] w' l':=by
 have hmade:=hid (made_any 8 w (by omega))
 go_enter Tryz.func19,Tryz.ntmps19
 go_wp2_with fail
 refine hmade.out.mono ?_
 rintro e w1 ⟨pb,rfl,S1⟩
 replace S1:=hid S1
 go_wp2_with fail
 go_ret
 refine⟨w1.heap.size,_,rfl,⟨newTb,pb,none,(newTb_ok hashNat).weak (Nat.zero_le _),rfl,rfl⟩,?_⟩
 exact S1.out.alloc _
theorem tlen_any (l:Hp) (b:Nat) (M:KV) (c:Nat) (w:World) (hT:IsTable l b M c) (ho:Own w l):
 Calls Tryz.prog 17 #[.pointer (some ⟨b,0,none⟩)] w fun e w'=>e= .returned (.int .i64 M.length)/\∃n,w'=w.drewN n:=by
 obtain⟨T,po,pf,hok,hmv,rfl⟩:=hT
 have c1:=(tabCells ho.head).c1
 have c4:=(tabCells ho.head).c4
 have hlen:=hok.lens
 have h1:=hok.old.fl
 have h2:=hok.fresh.fl
 have hB:=hok.lenB
 have hB2:T.fresh.ps.length<=1099511627776:=by
  cases hm:T.moving with
  |true=>exact(hok.busy hm).2.2.1
  |false=>rw[(hok.idle hm).1];simp[noRow]
 rw[cnt_fulls] at h1 h2
 have:=cnt_le T.old.ps 1
 have:=cnt_le T.fresh.ps 1
 rw[cnt_fulls] at *
 have hsum:T.old.fl+T.fresh.fl=(M.length:Int):=by omega
 have hb1:0<=T.old.fl/\T.old.fl<=1099511627776:=by omega
 have hb2:0<=T.fresh.fl/\T.fresh.fl<=1099511627776:=by omega
 have hw:IntKind.i64.wrap (T.old.fl+T.fresh.fl)=T.old.fl+T.fresh.fl:=IntWalk.i64_in _ (by omega)
 generalize T.old.fl=x at *
 generalize T.fresh.fl=y at *
 rw[<-hsum]
 clear h1 h2 hlen hB hB2 hok hmv ho hsum
 go_enter Tryz.func17,Tryz.ntmps17
 go_wp2_with fail
 go_quiet (fail)
 go_wp2_with fail
 go_ret
 exact⟨rfl,_,rfl⟩
def GrowPost (b po:Nat) (pf:Option Nat) (T:Tb) (M:KV) (w:World) (e:Ending) (w':World):Prop:=
 e= .returned (.tuple #[])/\∃pf' T',Step w (TabHp b po pf T) w' (TabHp b po pf' T')/\TabOk hashNat T' M 4/\T'.moving=pf'.isSome/\T'.old=T.old/\(T'.moving=false->2*(T.old.fl+T.old.gr)<T.old.ps.length)/\T'.moving=(T.moving||decide (¬2*(T.old.fl+T.old.gr)<T.old.ps.length))/\
  (T.moving=true->T'=T)/\(T.moving=false->T'.moving=true->T'.fresh.ps=List.replicate T'.fresh.ps.length emptyPl)
theorem tab_grown {w1:World} {pb n:Nat} (hS:Step w0 l w (TabHp b po none T)) (hm:Step w [] w1 [(pb,PlObj (List.replicate n emptyPl))]):
 Step w0 l ((((w1.setCell ⟨b,3,none⟩ (.slice (some ⟨pb,0,none⟩) n n)).setCell ⟨b,4,none⟩ (.int .i64 0)).setCell ⟨b,5,none⟩ (.int .i64 0)).setCell ⟨b,6,none⟩ (.bool true))
  (TabHp b po (some pb) ⟨T.old,⟨List.replicate n emptyPl,0,0⟩,true,T.next⟩):=by
 have h1:=(hS.beginning hm).permR (l2:=[(b,TabObj po none T),(po,PlObj T.old.ps),(pb,PlObj (List.replicate n emptyPl))]) (List.perm_append_comm (l₁:=[_]) (l₂:=[_,_]))
 have h2:=(((h1.set 3 (.slice (some ⟨pb,0,none⟩) n n)).set 4 (.int .i64 0)).set 5 (.int .i64 0)).set 6 (.bool true)
 have e:((((tabArr po none T).setIfInBounds 3 (.slice (some ⟨pb,0,none⟩) n n)).setIfInBounds 4 (.int .i64 0)).setIfInBounds 5 (.int .i64 0)).setIfInBounds 6 (.bool true)=tabArr po (some pb) ⟨T.old,⟨List.replicate n emptyPl,0,0⟩,true,T.next⟩:=by
  simp[tabArr,slcV]
 rw[e] at h2
 exact h2
theorem grow_any (b po:Nat) (pf:Option Nat) (T:Tb) (M:KV) (w:World) (hok:TabOk hashNat T M 4) (hmv:T.moving=pf.isSome) (hM:M.length<=68719476736) (ho:Own w (TabHp b po pf T)):
 Calls Tryz.prog 186 #[.pointer (some ⟨b,0,none⟩)] w (GrowPost b po pf T M w):=by
 have hpost:Hid (∀w' pf' T',Step w (TabHp b po pf T) w' (TabHp b po pf' T')->TabOk hashNat T' M 4->T'.moving=pf'.isSome->T'.old=T.old->(T'.moving=false->2*(T.old.fl+T.old.gr)<T.old.ps.length)->T'.moving=(T.moving||decide (¬2*(T.old.fl+T.old.gr)<T.old.ps.length))->
  (T.moving=true->T'=T)->(T.moving=false->T'.moving=true->T'.fresh.ps=List.replicate T'.fresh.ps.length emptyPl)->GrowPost b po pf T M w (.returned (.tuple #[])) w'):=fun w' pf' T' h1 h2 h3 h4 h5 h6 h7 h8=>⟨rfl,pf',T',h1,h2,h3,h4,h5,h6,h7,h8⟩
 have hst:=hid (Step.refl ho)
 obtain⟨c0,c1,c2,c3,c4,c5,c6,c7,fz,hlt⟩:=tabCells ho.head
 have hlen:=hok.len
 have hlB:=hok.lenB
 have hbd:=hok.old.bd hlB
 have hbd1:=hbd.1
 have hbd2:=hbd.2
 cases hm:T.moving with
 |true=>
  rw[hm] at c6
  have hok':=hid hok
  have hmv':=hid hmv
  have hm':=hid hm
  clear hok hmv hm ho c0 c1 c2 c3 c4 c5 c7 hbd
  go_enter Tryz.func186,Tryz.ntmps186
  go_wp2_with fail
  go_quiet (fail)
  go_wp2_with fail
  refine bodyPost_ret (results_none rfl _ _ _) rfl ?_
  exact hpost.out _ pf T (hst.out.drewN nq) hok'.out hmv'.out rfl (fun h=>by rw[hm'.out] at h;cases h) (by rw[hm'.out];rfl) (fun _=>rfl) (fun h=>by rw[hm'.out] at h;cases h)
 |false=>
  rw[hm] at c6
  obtain rfl:pf=none:=by rw[hm] at hmv;cases pf with|none=>rfl|some f=>simp at hmv
  have hs1:IntKind.i64.wrap (T.old.fl+T.old.gr)=T.old.fl+T.old.gr:=IntWalk.i64_in _ (by omega)
  have hs2:IntKind.i64.wrap (2*(T.old.fl+T.old.gr))=2*(T.old.fl+T.old.gr):=IntWalk.i64_in _ (by omega)
  by_cases hfit:2*(T.old.fl+T.old.gr)<T.old.ps.length
  ·have ht:decide (2*(T.old.fl+T.old.gr)<(T.old.ps.length:Int))=true:=by simpa using hfit
   have hok':=hid hok
   have hm':=hid hm
   have hfit':=hid hfit
   clear hok hmv hm ho c3 c4 c5 c7 hbd hfit
   go_enter Tryz.func186,Tryz.ntmps186
   go_wp2_with fail
   go_quiet (fail)
   go_wp2_with fail
   refine bodyPost_ret (results_none rfl _ _ _) rfl ?_
   exact hpost.out _ none T (hst.out.drewN nq) hok'.out hm'.out rfl (fun _=>hfit'.out) (by rw[hm'.out];simpa using hfit'.out) (fun _=>rfl) (fun _ h=>by rw[hm'.out] at h;cases h)
  ·have ht:decide (2*(T.old.fl+T.old.gr)<(T.old.ps.length:Int))=false:=by simpa using hfit
   have hflM:T.old.fl<=(M.length:Int):=by
    have h1:=hok.old.fl
    have h2:=hok.lens
    rw[cnt_fulls] at h1
    omega
   have hflM':T.old.fl<=68719476736:=by omega
   have hnx:=(hok.idle hm).2
   have hok':=hid hok
   have hm':=hid hm
   have hfit':=hid hfit
   have hnx':=hid hnx
   have hlen2:(0:Int)<=(T.old.ps.length:Int)/2:=by omega
   clear hok hmv hm ho c3 c4 c5 c7 hbd hfit hnx hflM
   have hmade:=hid (fun n w hB=>made_any n w hB)
   have hmk:∀(w1 w2 w':World) (n pb:Nat),Step w (TabHp b po none T) w1 (TabHp b po none T)->Step w1 [] w2 [(pb,PlObj (List.replicate n emptyPl))]->8<=n->n<=1099511627776->T.old.ps.length<=2*n+1->T.old.fl<((n/4:Nat):Int)->
    w'=(((w2.setCell ⟨b,3,none⟩ (.slice (some ⟨pb,0,none⟩) n n)).setCell ⟨b,4,none⟩ (.int .i64 0)).setCell ⟨b,5,none⟩ (.int .i64 0)).setCell ⟨b,6,none⟩ (.bool true)->
    GrowPost b po none T M w (.returned (.tuple #[])) w':=by
    intro w1 w2 w' n pb hS hmd h8 hB hL hf hw
    subst hw
    have hfin:=hok'.out.grown (room:=n) hm'.out h8 hB hL (by omega)
    have hg:=tab_grown hS hmd
    rw[hnx'.out] at hg
    exact hpost.out _ (some pb) _ hg hfin rfl rfl (fun h=>by cases h) (by rw[hm'.out];simpa using hfit'.out) (fun h=>by rw[hm'.out] at h;cases h) (fun _ _=>by simp)
   replace hmk:=hid hmk
   clear hpost
   obtain⟨r0,hr0,hr8,hrL,hrB⟩:∃r0:Nat,(if(8:Int)<(T.old.ps.length:Int)/2 then(T.old.ps.length:Int)/2 else 8)=(r0:Int)/\8<=r0/\T.old.ps.length<=2*r0+1/\r0<=1099511627776:=by
    by_cases h:(8:Int)<(T.old.ps.length:Int)/2
    ·exact⟨T.old.ps.length/2,by rw[if_pos h];omega,by omega,by omega,by omega⟩
    ·exact⟨8,by rw[if_neg h];rfl,by omega,by omega,by omega⟩
   replace hr0:=hid hr0
   by_cases h8:(8:Int)<(T.old.ps.length:Int)/2
   ·have hrr:=hr0.out
    rw[if_pos h8] at hrr
    go_enter Tryz.func186,Tryz.ntmps186
    go_wp2_with fail
    go_quiet (fail)
    clear ht hs1 hs2
    go_wp2_with fail
    go_loop [2] (fun r=>∃n:Nat,r= .int .i64 n/\8<=n/\T.old.ps.length<=2*n+1/\n<=1099511627776) (fun r=>2199023255552 - (intOf r).toNat)
    case atStart=>exact⟨r0,rfl,hr8,hrL,hrB⟩
    case round=>
     clear hrr hr8 hrL hrB
     obtain⟨n,rfl,hn8,hnL,hnB⟩:=hrel
     by_cases hgo:(n:Int)/4<=T.old.fl
     ·go_wp2_with fail
      go_round
      case rel=>exact⟨n*2,by go_num,by omega,by omega,by omega⟩
      case measure=>simp[intOf];omega
     ·have hgo':T.old.fl<(n:Int)/4:=by omega
      have hlast:=hid (show T.old.fl<((n/4:Nat):Int) by omega)
      go_wp2_with fail
      refine(hmade.out n _ hnB).mono ?_
      rintro e w2 ⟨pb,rfl,S2⟩
      have S3:=tabCells (((hst.out.drewN nq).beginning S2).own.right (l:=[_])).head
      obtain⟨d0,d1,d2,d3,d4,d5,d6,d7,dz,dlt⟩:=S3
      replace S2:=hid S2
      go_wp2_with fail
      go_end0
      exact hmk.out _ _ _ n pb (hst.out.drewN nq) S2.out hn8 hnB hnL hlast.out rfl
   ·have hrr:=hr0.out
    rw[if_neg h8] at hrr
    obtain rfl:r0=8:=by omega
    clear hr0 hrr
    go_enter Tryz.func186,Tryz.ntmps186
    go_wp2_with fail
    go_quiet (fail)
    clear ht hs1 hs2
    go_wp2_with fail
    go_loop [2] (fun r=>∃n:Nat,r= .int .i64 n/\8<=n/\T.old.ps.length<=2*n+1/\n<=1099511627776) (fun r=>2199023255552 - (intOf r).toNat)
    case atStart=>exact⟨8,rfl,hr8,hrL,hrB⟩
    case round=>
     clear hr8 hrL hrB
     obtain⟨n,rfl,hn8,hnL,hnB⟩:=hrel
     by_cases hgo:(n:Int)/4<=T.old.fl
     ·go_wp2_with fail
      go_round
      case rel=>exact⟨n*2,by go_num,by omega,by omega,by omega⟩
      case measure=>simp[intOf];omega
     ·have hgo':T.old.fl<(n:Int)/4:=by omega
      have hlast:=hid (show T.old.fl<((n/4:Nat):Int) by omega)
      go_wp2_with fail
      refine(hmade.out n _ hnB).mono ?_
      rintro e w2 ⟨pb,rfl,S2⟩
      have S3:=tabCells (((hst.out.drewN nq).beginning S2).own.right (l:=[_])).head
      obtain⟨d0,d1,d2,d3,d4,d5,d6,d7,dz,dlt⟩:=S3
      replace S2:=hid S2
      go_wp2_with fail
      go_end0
      exact hmk.out _ _ _ n pb (hst.out.drewN nq) S2.out hn8 hnB hnL hlast.out rfl
def PutPost (l:Hp) (b:Nat) (M:KV) (key:ByteArray) (n:Int) (w:World) (e:Ending) (w':World):Prop:=
 e= .returned (.bool (look M key).isNone)/\∃l',IsTable l' b ((key,n)::without M key) 0/\Step w l w' l'
theorem PutPost.mk {l':Hp} {M:KV} {key:ByteArray} {n:Int} {w':World} {is:Bool} (hi:(look M key).isNone=is) (h:IsTable l' b ((key,n)::without M key) 0) (hs:Step w l w' l'):
 PutPost l b M key n w (.returned (.bool is)) w':=by subst hi;exact⟨rfl,l',h,hs⟩
theorem plCells_setN (ps:List Pl) (i:Nat) (n:Int) (hi:i<ps.length):(plCells ps).toArray.setIfInBounds (i*3+2) (.int .i64 n)=(plCells (ps.set i ⟨(plAt ps i).st,(plAt ps i).key,n⟩)).toArray:=by
 have h:=plCells_set ps i ⟨(plAt ps i).st,(plAt ps i).key,n⟩ hi
 rw[<-h]
 have hl:=plCells_len ps
 have e0:=plCells_get ps i 0 (by omega)
 have e1:=plCells_get ps i 1 (by omega)
 rw[if_pos hi] at e0 e1
 congr 1
 simp only[List.setIfInBounds_toArray]
 congr 1
 apply List.ext_getElem?
 intro m
 simp only[List.getElem?_set,List.length_set]
 by_cases h1:i*3+1=m
 ·subst h1
  rw[if_pos rfl,if_pos (by omega),e1]
  rfl
 ·rw[if_neg h1]
  by_cases h0:i*3=m
  ·subst h0
   rw[if_pos rfl,if_pos (by omega)]
   simpa[plVals] using e0
  ·rw[if_neg h0]
theorem tab_setOld {i:Nat} {pf:Option Nat} {n:Int} (hS:Step w0 l w (TabHp b po pf T)) (hi:i<T.old.ps.length):
 Step w0 l (w.setCell ⟨po,i*3+2,none⟩ (.int .i64 n)) (TabHp b po pf {T with old:=T.old.setN i n}):=by
 have h:=hS.set2 (i*3+2) (.int .i64 n)
 rw[plCells_setN _ _ _ hi] at h
 have e:TabObj po pf T=TabObj po pf {T with old:=T.old.setN i n}:=by simp[TabObj,tabArr,Row.setN]
 rw[e] at h
 exact h
theorem tab_setFresh {f i:Nat} {n:Int} (hS:Step w0 l w (TabHp b po (some f) T)) (hi:i<T.fresh.ps.length):
 Step w0 l (w.setCell ⟨f,i*3+2,none⟩ (.int .i64 n)) (TabHp b po (some f) {T with fresh:=T.fresh.setN i n}):=by
 have h:=Step.set3 (p:=(b,TabObj po (some f) T)) (q:=(po,PlObj T.old.ps)) hS (i*3+2) (.int .i64 n)
 rw[plCells_setN _ _ _ hi] at h
 have e:TabObj po (some f) T=TabObj po (some f) {T with fresh:=T.fresh.setN i n}:=by simp[TabObj,tabArr,Row.setN]
 rw[e] at h
 exact h
theorem tput_any (l:Hp) (b:Nat) (M:KV) (key:ByteArray) (n:Int) (w:World) (hT:IsTable l b M 0) (hM:∀k∈M.map Prod.fst,k.size<=maxLen) (hMl:M.length<=68719476736) (hk:key.size<=maxLen) (ho:Own w l):
 Calls Tryz.prog 147 #[.pointer (some ⟨b,0,none⟩),.string key,.int .i64 n] w (PutPost l b M key n w):=by
 have hstep:=hid (tstep_any l b M w hT hM ho)
 clear hT hM ho
 go_enter Tryz.func147,Tryz.ntmps147
 go_wp2_with fail
 refine hstep.out.mono ?_
 rintro e w1 ⟨rfl,l1,hT1,S1⟩
 obtain⟨T,po,pf,hok,hmv,rfl⟩:=hT1
 have hat:=hid (at_any b po pf T M 4 key w1 hok hmv hk S1.own)
 replace S1:=hid S1
 replace hmv:=hid hmv
 go_wp2_with fail
 refine hat.out.mono ?_
 rintro e w2 ⟨⟨nd,rfl⟩,v,i,rfl,hv⟩
 cases hv with
 |fresh i hm hi h1 hke=>
  have hl:=hok.memFresh hi h1
  have hfin:=hok.setFresh (n:=n) hm hi h1
  rw[hke] at hl hfin
  have hpf:∃f,pf=some f:=by have:=hmv.out;rw[hm] at this;exact Option.isSome_iff_exists.1 this.symm
  obtain⟨f,rfl⟩:=hpf
  have c3:=(tabCells S1.out.own.head).c3
  have hpl:PlacesAt w1 f T.fresh.ps:=S1.out.own.tail.tail.head
  have p2:=hpl.n hi
  have g2:w1.frozen? ⟨f,i*3+2,none⟩=false:=cells_free hpl _
  have hB:=(hok.busy hm).2.2.1
  simp only[slcV] at c3
  have hset:=hid (tab_setFresh (n:=n) (S1.out.drewN nd) hi)
  replace hl:=hid hl
  replace hfin:=hid hfin
  clear hat hm h1 hke hpl hok
  go_wp2_with fail
  go_ret
  exact .mk (by rw[hl.out];rfl) ⟨_,po,some f,hfin.out.weak (Nat.zero_le _),hmv.out,rfl⟩ hset.out
 |old i hi h1 hke=>
  have hl:=hok.memOld hi h1
  have hfin:=hok.setOld (n:=n) hi h1
  rw[hke] at hl hfin
  have c0:=(tabCells S1.out.own.head).c0
  have hpl:PlacesAt w1 po T.old.ps:=S1.out.own.tail.head
  have p2:=hpl.n hi
  have g2:w1.frozen? ⟨po,i*3+2,none⟩=false:=cells_free hpl _
  have hB:=hok.lenB
  have hset:=hid (tab_setOld (n:=n) (S1.out.drewN nd) hi)
  replace hl:=hid hl
  replace hfin:=hid hfin
  clear hat h1 hke hpl hok
  go_wp2_with fail
  go_ret
  exact .mk (by rw[hl.out];rfl) ⟨_,po,pf,hfin.out.weak (Nat.zero_le _),hmv.out,rfl⟩ hset.out
 |none hno hnf=>
  have hl:=hok.noneAt hno hnf
  have hw:=without_none hl
  have hnk:=look_none.1 hl
  have hg:=hid (grow_any b po pf T M (w1.drewN nd) hok hmv.out hMl (S1.out.drewN nd).own)
  have hpost:Hid (∀w' l',IsTable l' b ((key,n)::M) 0->Step w l w' l'->PutPost l b M key n w (.returned (.bool true)) w'):=fun w' l' h1 h2=>.mk (by rw[hl];rfl) (by rw[hw];exact h1) h2
  replace hl:=hid hl
  replace hnk:=hid hnk
  clear hat hw
  have hok':=hid hok
  clear hok
  replace hno:=hid hno
  replace hnf:=hid hnf
  go_wp2_with fail
  refine hg.out.mono ?_
  rintro e w3 ⟨rfl,pf',T',S3,hok3,hmv3,hold,hfit,hmo,hsame,hnew⟩
  have S4:=(S1.out.drewN nd).trans S3
  have c6:=(tabCells S4.own.head).c6
  clear hg hmo
  replace S4:=hid S4
  cases hm:T'.moving with
  |true=>
   rw[hm] at c6
   obtain⟨f,rfl⟩:∃f,pf'=some f:=by rw[hm] at hmv3;exact Option.isSome_iff_exists.1 hmv3.symm
   have hfree:Absent T'.fresh.ps key:=by
    intro i p hp hs hke
    have:=hok3.memFresh (List.getElem?_eq_some_iff.1 hp).1 (by rw[plAt_of hp];exact hs)
    rw[plAt_of hp,hke,hl.out] at this
    cases this
   have hB:=(hok3.busy hm).2.2.1
   have h8:=(hok3.busy hm).2.1
   have hfd:=findRow_ok hashNat T'.fresh.ps key hok3.fresh.ok (by omega)
   cases hr:findRow hashNat T'.fresh.ps key with
   |mk r1 r2=>
   rw[hr] at hfd
   cases r2 with
   |true=>
    obtain⟨i',_,hi',hs',hk'⟩:=hfd.yes rfl
    exact absurd hk' (hfree i' _ (at_plAt hi') hs')
   |false=>
   obtain⟨i',hi',hpp⟩:=hfd.place rfl (hok3.room hm)
   simp only at hi'
   subst hi'
   have hput:=hid (put_fresh b po f i' T' key n w3 S4.out (r:=[]) (by simp) hk hB hok3.fresh hr hpp)
   have hfin:=hid (hok3.putFresh (n:=n) hm hnk.out hpp)
   have hmt:=hid hm
   clear hok3 hm hB h8 hfd hr hpp hfree hmv3 hold hfit hsame hnew S3
   go_wp2_with fail
   refine hput.out.mono ?_
   rintro e w5 ⟨rfl,S5⟩
   replace S5:=hid S5
   go_wp2_with fail
   go_ret
   exact hpost.out _ _ ⟨_,po,some f,hfin.out,hmt.out,rfl⟩ (by simpa using S5.out)
  |false=>
   rw[hm] at c6
   obtain rfl:pf'=none:=by rw[hm] at hmv3;cases pf' with|none=>rfl|some f=>cases hmv3
   have hfree:Absent T'.old.ps key:=by
    intro i p hp hs hke
    have:=hok3.memOld (List.getElem?_eq_some_iff.1 hp).1 (by rw[plAt_of hp];exact hs)
    rw[plAt_of hp,hke,hl.out] at this
    cases this
   have hB:=hok3.lenB
   have h8:=hok3.len
   have hfd:=findRow_ok hashNat T'.old.ps key hok3.old.ok (by omega)
   cases hr:findRow hashNat T'.old.ps key with
   |mk r1 r2=>
   rw[hr] at hfd
   cases r2 with
   |true=>
    obtain⟨i',_,hi',hs',hk'⟩:=hfd.yes rfl
    exact absurd hk' (hfree i' _ (at_plAt hi') hs')
   |false=>
   obtain⟨i',hi',hpp⟩:=hfd.place rfl (hok3.roomOld (by rw[hold];exact hfit hm))
   simp only at hi'
   subst hi'
   have hput:=hid (put_old b po i' none T' key n w3 S4.out (r:=[]) (by simp) hk hB hok3.old hr hpp)
   have hfin:=hid (hok3.putOld (n:=n) (c':=0) hm hnk.out hpp)
   have hmt:=hid hm
   clear hok3 hm hB h8 hfd hr hpp hfree hmv3 hold hfit hsame hnew S3
   go_wp2_with fail
   refine hput.out.mono ?_
   rintro e w5 ⟨rfl,S5⟩
   replace S5:=hid S5
   go_wp2_with fail
   go_ret
   exact hpost.out _ _ ⟨_,po,none,hfin.out,hmt.out,rfl⟩ (by simpa using S5.out)
section
variable {P:Program} {ops:Array Oper} {md:Region.Mode} {C:World->Prop}
def headQ (P:Program) (md:Region.Mode) (ops:Array Oper) (C:World->Prop) (n:Nat) (L:Array Bool->Act->Prop):Nat->Array Bool->Act->Prop
 |0,done,a=>L done a
 |f+1,done,a=>Region.ready md ops done≠[]/\∀i∈Region.ready md ops done,i<n/\qOp P ops C i (headQ P md ops C n L f (done.setIfInBounds i true)) a
theorem headQ_run {n g:Nat} {L:Array Bool->Act->Prop} {Q:Exit->Act->World->Prop} (hL:∀done a,L done a->∀w,C w->wpAny P md ops Q g done a w):
 ∀(f:Nat) (done:Array Bool) (a:Act) (w:World),C w->headQ P md ops C n L f done a->wpAny P md ops Q (f+g) done a w:=by
 intro f
 induction f with
 |zero=>intro done a w hw h;rw[Nat.zero_add];exact hL done a h w hw
 |succ f ih=>
  intro done a w hw h
  rw[show f+1+g=(f+g)+1 by omega]
  exact⟨fun h0=>absurd h0 h.1,fun i hi=>wpOp_of_qOp hw (fun a' w' hw' h'=>ih _ a' w' hw' h') (h.2 i hi).2⟩
theorem headQ_first {n i:Nat} {o:Oper} {v:Value} {L:Array Bool->Act->Prop} (ho:ops[i]? =some o) (hsel:∀(j:Nat) (o:Oper) cs b,ops[j]? =some o->o.op≠ .select cs b)
 (hs:Region.sinkB md ops n=true) (hc:Region.chainB md ops n=true) (hn:n<ops.size) (hin:i<n) (hL:∀done a,L done a->∀j∈Region.ready md ops done,n<=j)
 (f:Nat):∀(done:Array Bool) (a:Act),HeadInv md ops n done->
  (∀j oj,ops[j]? =some oj->j≠i->done.getD j true=false->(∀e∈oj.after,Region.binds md e=true->e.on≠i)->o.apart ops oj=true)->
  i∈Region.ready md ops done->YieldsIn P ops C o v a->headQ P md ops C n L f (done.setIfInBounds i true) (a.put o.dst v)->headQ P md ops C n L (f+1) done a:=by
 induction f with
 |zero=>
  intro done a inv _ hr hy H
  have hun:=(mem_ready.1 hr).1
  refine⟨List.ne_nil_of_mem hr,fun j hj=>?_⟩
  have hjn:j<n:=Nat.lt_of_not_le fun h=>tail_waits hs hc hn inv _ i rfl hin hun j h hj
  by_cases e:j=i
  ·subst e;exact⟨hjn,hy.qOp ho H⟩
  ·exact absurd (hL _ _ H j (ready_mono hj e)) (by omega)
 |succ f ih=>
  intro done a inv hfree hr hy H
  have hun:=(mem_ready.1 hr).1
  refine⟨List.ne_nil_of_mem hr,fun j hj=>?_⟩
  have hjn:j<n:=Nat.lt_of_not_le fun h=>tail_waits hs hc hn inv _ i rfl hin hun j h hj
  refine⟨hjn,?_⟩
  by_cases e:j=i
  ·subst e;exact hy.qOp ho H
  ·obtain⟨hjun,oj,hoj,hall⟩:=mem_ready.1 hj
   have hnot:∀e∈oj.after,Region.binds md e=true->e.on≠i:=fun e he hb heq=>by
    have:=hall e he hb
    rw[heq,getD_both hun] at this
    cases this
   have h2:=qOp_put hoj (hfree j oj hoj e hjun hnot) (fun cs b=>hsel i o cs b ho) (fun cs b=>hsel j oj cs b hoj) hy (H.2 j (ready_mono hj e)).2
   refine qOp_mono (fun a' h3=>ih (done.setIfInBounds j true) a' (inv.set hj hjn) (fun k ok hk hki hkun hno=>hfree k ok hk hki ?_ hno) (ready_mono hr (Ne.symm e)) h3.1 ?_) h2
   ·by_cases hjk:j=k
    ·subst hjk;exact hjun
    ·rwa[getD_set_ne true hjk] at hkun
   ·rw[Array.setIfInBounds_comm _ _ e]
    exact h3.2
theorem headQ_lex {n g:Nat} {T:Act->Prop} (hsel:Region.noSelect ops=true) (hs:Region.sinkB md ops n=true) (hc:Region.chainB md ops n=true) (hn:n<ops.size)
 (l:List Oper):∀(k:Nat) (done:Array Bool) (a:Act),(∀j,j<l.length->l[j]? =ops[k+j]?)->k+l.length=n->HeadInv md ops n done->
 Region.lexHead md ops g l.length k done=true->wpQuiet P ops C T l a->headQ P md ops C n (fun done' a'=>Region.seqB md ops g n done'=true/\T a') l.length done a:=by
 induction l with
 |nil=>
  intro k done a _ hk _ hB h
  have:k=n:=by simpa using hk
  subst this
  exact⟨by simpa[Region.lexHead] using hB,h⟩
 |cons o l ih=>
  intro k done a hl hk inv hB h
  have h0:ops[k]? =some o:=by simpa using (hl 0 (by simp)).symm
  simp only[List.length_cons,Region.lexHead,Bool.and_eq_true] at hB
  simp only[List.length_cons] at hk
  have hr:k∈Region.ready md ops done:=by simpa using hB.1.1
  obtain⟨v,hy,hK⟩:=yieldsIn_of_qOp (C:=C) (K:=wpQuiet P ops C T l) h0 (by unfold qOp;simp only[h0];exact h)
  exact headQ_first h0 (Region.noSelect_spec hsel) hs hc hn (by omega) (fun done' a' hL=>seqB_ready hL.1) l.length done a inv (Region.free_spec h0 hB.1.2) hr hy
   (ih (k+1) _ _ (fun j hj=>by have:=hl (j+1) (by simpa using hj);simpa[Nat.add_assoc,Nat.add_comm 1 j] using this) (by omega) (inv.set hr (by omega)) hB.2 hK)
end
theorem wp_region_tail {P:Program} {id:Nat} {Q:Exit->Act->World->Prop} {a:Act} {L:Hp} {ops:List Oper} (n:Nat) (hS:Step w0 l w L) (hm:P.follows .mixedOrders=true) (hB:Region.lexTailB .any ops.toArray n=true)
 (h:Nonempty (InW w0 l L)->wpQuiet P ops.toArray (fun w'=>∃p:InW w0 l L,w'=p.w) (fun a'=>∀w',(∃p:InW w0 l L,w'=p.w)->wpList P ops.toArray Q (ops.drop n) a' w') (ops.take n) a):(Code.region id ops.toArray true).wp P Q a w:=by
  simp only[Region.lexTailB,Bool.and_eq_true,decide_eq_true_eq] at hB
  obtain⟨⟨⟨⟨hsel,hn⟩,hs⟩,hc⟩,hlex⟩:=hB
  have hn':n<ops.length:=by simpa using hn
  have htl:(ops.take n).length=n:=by simp;omega
  have hdl:(ops.drop n).length=ops.toArray.size - n:=by simp
  have inv0:HeadInv .any ops.toArray n (Array.replicate ops.toArray.size false):=
   ⟨by simp,fun j oj _ hl=>(by rw[getD_replicate_false] at hl;cases hl),fun t _ ht=>getD_in (by simpa using ht) (getD_replicate_false _ _)⟩
  have H:=headQ_lex (md:=.any) (g:=ops.toArray.size - n) hsel hs hc hn (ops.take n) 0 _ a (fun j hj=>by
   rw[htl] at hj;simp[hj]) (by omega) inv0 (by rw[htl];exact hlex) (h ⟨⟨w,hS⟩⟩)
  refine wp_region_any hm ?_
  have R:=headQ_run (Q:=Q) (g:=ops.toArray.size - n) (fun done a' hL w' hw'=>by
   have:=wpAny_of_seq (md:=.any) (Q':=Q) (ops.drop n) n done a' w' (fun j=>by simp[List.getElem?_drop]) (by rw[hdl];exact hL.1) (hL.2 w' hw')
   rwa[hdl] at this) _ _ _ w.drew ⟨⟨w.drew,hS.drew⟩,rfl⟩ H
  rw[htl,show n+(ops.toArray.size - n)=ops.toArray.size by omega] at R
  exact R
theorem tail_nil {P:Program} {ops os:Array Oper} {C:World->Prop} {Q:Exit->Act->World->Prop} {a:Act} {L:Hp} {rest:List Oper} (h:∀w',Step w0 l w' L->wpList P os Q rest a w'):
 wpQuiet P ops C (fun a'=>∀w',(∃p:InW w0 l L,w'=p.w)->wpList P os Q rest a' w') [] a:=wpQuiet_nil (fun _ ⟨p,hp⟩=>by rw[hp];exact h p.w p.h)
def dval (ds:List Nat):Nat:=ds.foldl (fun n d=>10*n+d) 0
theorem dval_foldl (ds:List Nat):∀n,ds.foldl (fun n d=>10*n+d) n=n*10 ^ds.length+dval ds:=by
 induction ds with
 |nil=>intro n;simp[dval]
 |cons d ds ih=>
  intro n
  show List.foldl _ (10*n+d) ds=_+List.foldl _ (10*0+d) ds
  rw[ih,ih (10*0+d),List.length_cons,Nat.pow_succ,Nat.add_mul,Nat.mul_zero,Nat.zero_add]
  have:10*n*10 ^ds.length=n*(10 ^ds.length*10):=by
   rw[Nat.mul_comm 10 n,Nat.mul_assoc,Nat.mul_comm 10]
  omega
@[simp] theorem dval_nil:dval []=0:=rfl
theorem dval_cons (d:Nat) (ds:List Nat):dval (d::ds)=d*10 ^ds.length+dval ds:=by
 show List.foldl _ (10*0+d) ds=_
 rw[dval_foldl];simp
theorem dval_append (a b:List Nat):dval (a++b)=dval a*10 ^b.length+dval b:=by
 show List.foldl _ 0 (a++b)=_
 rw[List.foldl_append,dval_foldl];rfl
theorem dval_snoc (a:List Nat) (d:Nat):dval (a++[d])=dval a*10+d:=by rw[dval_append];simp[dval]
theorem dval_lt (h:∀d∈ds,d<10):dval ds<10 ^ds.length:=by
 induction ds with
 |nil=>simp
 |cons d ds ih=>
  rw[dval_cons,List.length_cons,Nat.pow_succ]
  have h1:=ih fun x hx=>h x (by simp[hx])
  have h2:=h d (by simp)
  have h3:d*10 ^ds.length<=9*10 ^ds.length:=Nat.mul_le_mul_right _ (by omega)
  omega
theorem dval_ge (h:1<=d):10 ^ds.length<=dval (d::ds):=by
 rw[dval_cons]
 have:1*10 ^ds.length<=d*10 ^ds.length:=Nat.mul_le_mul_right _ h
 omega
structure Dc where
 ds:List Nat
 dp:Int
 lost:Bool
def dtrim:List Nat->List Nat
 |[]=>[]
 |d::ds=>match dtrim ds with
  |[]=>if d=0 then [] else [d]
  |e::es=>d::e::es
def Dc.trim (a:Dc):Dc:=⟨dtrim a.ds,if dtrim a.ds=[] then 0 else a.dp,a.lost⟩
theorem dtrim_snoc0 (ds:List Nat):dtrim (ds++[0])=dtrim ds:=by
 induction ds with
 |nil=>rfl
 |cons d ds ih=>simp only[List.cons_append,dtrim,ih]
theorem dtrim_snoc (h:d≠0):dtrim (ds++[d])=ds++[d]:=by
 induction ds with
 |nil=>simp[dtrim,h]
 |cons e ds ih=>
  simp only[List.cons_append,dtrim,ih]
  cases ds<;>rfl
theorem dtrim_head (h:1<=d):∃es,dtrim (d::ds)=d::es:=by
 simp only[dtrim]
 split
 ·rw[if_neg (by omega)];exact⟨[],rfl⟩
 ·exact⟨_,rfl⟩
theorem dtrim_pre (ds:List Nat):∃n,n<=ds.length/\dtrim ds=ds.take n:=by
 induction ds with
 |nil=>exact⟨0,Nat.le_refl _,rfl⟩
 |cons d ds ih=>
  obtain⟨n,hn,he⟩:=ih
  simp only[dtrim]
  split
  ·split
   ·exact⟨0,Nat.zero_le _,rfl⟩
   ·exact⟨1,by simp,by simp⟩
  ·rename_i e es heq
   exact⟨n+1,by simp[hn],by rw[List.take_succ_cons,<-he,heq]⟩
theorem dtrim_mem (h:d∈dtrim ds):d∈ds:=by
 obtain⟨n,_,he⟩:=dtrim_pre ds
 rw[he] at h;exact List.mem_of_mem_take h
theorem dtrim_len (ds:List Nat):(dtrim ds).length<=ds.length:=by
 obtain⟨n,hn,he⟩:=dtrim_pre ds
 rw[he,List.length_take];omega
def rPad (k:Nat):Nat->Nat->Nat->Nat×Nat
 |0,n,r=>(n,r)
 |f+1,n,r=>if n/2 ^k≠0 then(n,r) else rPad k f (n*10) (r+1)
def rPick (k:Nat):List Nat->Nat->Nat->Nat×Nat×List Nat
 |[],n,r=>((rPad k (k+1) n r).1,(rPad k (k+1) n r).2,[])
 |d::ds,n,r=>if n/2 ^k≠0 then(n,r,d::ds) else rPick k ds (n*10+d) (r+1)
def rMid (k:Nat):List Nat->Nat->List Nat->Nat×List Nat
 |[],n,out=>(n,out)
 |d::ds,n,out=>rMid k ds (n%2 ^k*10+d) (out++[n/2 ^k])
def rEnd (k:Nat):Nat->Nat->List Nat->Bool->List Nat×Bool
 |0,_,out,lost=>(out,lost)
 |f+1,n,out,lost=>if n=0 then(out,lost) else if out.length<800 then rEnd k f (n%2 ^k*10) (out++[n/2 ^k]) lost else rEnd k f (n%2 ^k*10) out (lost||decide (0<n/2 ^k))
def rFin (a:Dc) (r:Nat) (p:List Nat×Bool):Dc:=Dc.trim ⟨p.1,a.dp - (r - 1),p.2⟩
def rMidFin (k:Nat) (a:Dc) (r:Nat) (p:Nat×List Nat):Dc:=rFin a r (rEnd k (k+2) p.1 p.2 a.lost)
def Dc.right (a:Dc) (k:Nat):Dc:=rMidFin k a (rPick k a.ds 0 0).2.1 (rMid k (rPick k a.ds 0 0).2.2 (rPick k a.ds 0 0).1 [])
def lMid (k:Nat):List Nat->Nat->Nat->List Nat->Bool->Nat×Nat×List Nat×Bool
 |[],w,n,out,lost=>(w,n,out,lost)
 |d::rs,w,n,out,lost=>if w - 1<800 then lMid k rs (w - 1) ((n+d*2 ^k)/10) ((n+d*2 ^k)%10::out) lost else lMid k rs (w - 1) ((n+d*2 ^k)/10) out (lost||decide ((n+d*2 ^k)%10≠0))
def lEnd:Nat->Nat->Nat->List Nat->Bool->List Nat×Bool
 |0,_,_,out,lost=>(out,lost)
 |f+1,w,n,out,lost=>if n=0 then(out,lost) else if w - 1<800 then lEnd f (w - 1) (n/10) (n%10::out) lost else lEnd f (w - 1) (n/10) out (lost||decide (n%10≠0))
def lFin (a:Dc) (delta:Nat) (p:List Nat×Bool):Dc:=Dc.trim ⟨p.1,a.dp+delta,p.2⟩
def lMidFin (a:Dc) (delta:Nat) (p:Nat×Nat×List Nat×Bool):Dc:=lFin a delta (lEnd p.1 p.1 p.2.1 p.2.2.1 p.2.2.2)
def fives (k:Nat):List Nat:=(Nat.toDigits 10 (5 ^k)).map fun c=>c.toNat - 48
def lessPre:List Nat->List Nat->Bool
 |_,[]=>false
 |[],_::_=>true
 |d::ds,e::es=>if d=e then lessPre ds es else decide (d<e)
def cheat (k:Nat):Nat×List Nat:=if k=0 then(0,[]) else(k+1 - (fives k).length,fives k)
def delta (a:Dc) (k:Nat):Nat:=(cheat k).1 - if lessPre a.ds (cheat k).2 then 1 else 0
def Dc.left (a:Dc) (k:Nat):Dc:=lMidFin a (delta a k) (lMid k a.ds.reverse (a.ds.length+delta a k) 0 [] a.lost)
structure DcOk (a:Dc):Prop where
 head:∃d es,a.ds=d::es/\1<=d
 ten:∀d∈a.ds,d<10
 len:a.ds.length<=800
def Dc.top (a:Dc):Nat:=a.ds.headD 0
theorem lessPre_go {cs:List Nat} (hd:∀d∈ds,d<10) (hc:∀d∈cs,d<10) (hl:cs=[]\/∃c e,cs=c++[e]/\1<=e):
 (lessPre ds cs=true->dval ds*10 ^cs.length<dval cs*10 ^ds.length)/\(lessPre ds cs=false->dval cs*10 ^ds.length<=dval ds*10 ^cs.length):=by
 induction ds generalizing cs with
 |nil=>
  cases cs with
  |nil=>simp[lessPre]
  |cons e es=>
   simp only[lessPre,forall_const,List.length_nil]
   rcases hl with hl|⟨c,x,hl,hx⟩
   ·simp at hl
   ·rw[hl,dval_snoc];simp;omega
 |cons d ds ih=>
  cases cs with
  |nil=>simp[lessPre]
  |cons e es=>
   have hd':∀x∈ds,x<10:=fun x hx=>hd x (by simp[hx])
   have hc':∀x∈es,x<10:=fun x hx=>hc x (by simp[hx])
   have hl':es=[]\/∃c x,es=c++[x]/\1<=x:=by
    rcases hl with hl|⟨c,x,hl,hx⟩
    ·simp at hl
    ·cases c with
     |nil=>simp at hl;exact .inl hl.2
     |cons y c=>simp at hl;exact .inr ⟨c,x,hl.2,hx⟩
   have ih':=ih hd' hc' hl'
   have hu:=dval_lt hd'
   have hv:=dval_lt hc'
   simp only[lessPre]
   rw[dval_cons,dval_cons,List.length_cons,List.length_cons,Nat.pow_succ,Nat.pow_succ]
   generalize 10 ^ds.length=A at *
   generalize 10 ^es.length=B at *
   generalize dval ds=u at *
   generalize dval es=v at *
   have e1:(d*A+u)*(B*10)=10*(d*(A*B))+10*(u*B):=by
    rw[Nat.add_mul];congr 1
    ·rw[Nat.mul_assoc,<-Nat.mul_assoc A,<-Nat.mul_assoc,Nat.mul_comm 10]
    ·rw[<-Nat.mul_assoc,Nat.mul_comm 10]
   have e2:(e*B+v)*(A*10)=10*(e*(A*B))+10*(v*A):=by
    rw[Nat.add_mul];congr 1
    ·rw[Nat.mul_assoc,<-Nat.mul_assoc B,Nat.mul_comm B A,<-Nat.mul_assoc,Nat.mul_comm 10]
    ·rw[<-Nat.mul_assoc,Nat.mul_comm 10]
   rw[e1,e2]
   have hA:0<A:=by omega
   have hB:0<B:=by omega
   have huB:u*B<A*B:=Nat.mul_lt_mul_of_pos_right hu hB
   have hvA:v*A<A*B:=by rw[Nat.mul_comm A];exact Nat.mul_lt_mul_of_pos_right hv hA
   by_cases hde:d=e
   ·subst hde
    rw[if_pos rfl]
    exact⟨fun h=>by have:=ih'.1 h;omega,fun h=>by have:=ih'.2 h;omega⟩
   ·rw[if_neg hde]
    simp only[decide_eq_true_eq,decide_eq_false_iff_not]
    constructor
    ·intro h
     have:(d+1)*(A*B)<=e*(A*B):=Nat.mul_le_mul_right _ h
     rw[Nat.add_mul] at this
     omega
    ·intro h
     have:(e+1)*(A*B)<=d*(A*B):=Nat.mul_le_mul_right _ (by omega)
     rw[Nat.add_mul] at this
     omega
def fivesOk (k:Nat):Bool:=decide (dval (fives k)=5 ^k)&&(fives k).all (·<10)&&decide (10 ^((fives k).length - 1)<=5 ^k)&&decide (5 ^k<10 ^(fives k).length)&&decide (1<=(fives k).length)&&decide (1<=(fives k).getLastD 0)&&decide ((fives k).length<=k+1)
theorem fives_all:∀k,k<=60->fivesOk k=true:=by
 intro k hk
 have h:(List.range 61).all fivesOk=true:=by decide+kernel
 exact List.all_eq_true.1 h k (by simp;omega)
theorem cheat_facts {k:Nat} (h1:1<=k) (h2:k<=60):∃L,(fives k).length=L/\1<=L/\L<=k/\dval (fives k)=5 ^k/\(∀d∈fives k,d<10)/\10 ^(L - 1)<=5 ^k/\5 ^k<10 ^L/\∃c e,fives k=c++[e]/\1<=e:=by
 have h:=fives_all k h2
 simp only[fivesOk,Bool.and_eq_true,decide_eq_true_eq,List.all_eq_true] at h
 obtain⟨⟨⟨⟨⟨⟨a1,a2⟩,a3⟩,a4⟩,a5⟩,a6⟩,a7⟩:=h
 refine⟨_,rfl,a5,?_,a1,a2,a3,a4,?_⟩
 ·by_cases hk:(fives k).length<=k
  ·exact hk
  ·exfalso
   have e:(fives k).length - 1=k:=by omega
   rw[e] at a3
   exact absurd a3 (Nat.not_le.2 (Nat.pow_lt_pow_left (by decide) (by omega)))
 ·have hne:fives k≠[]:=by intro h;rw[h] at a5;simp at a5
  refine⟨(fives k).dropLast,(fives k).getLast hne,(List.dropLast_concat_getLast hne).symm,?_⟩
  rw[List.getLastD_eq_getLast?,List.getLast?_eq_some_getLast hne] at a6
  exact a6
theorem pow_split (k:Nat):(10:Nat) ^k=5 ^k*2 ^k:=by rw[<-Nat.mul_pow]
theorem delta_fits {a:Dc} (h:DcOk a) {k:Nat} (h1:1<=k) (h2:k<=60):
 dval a.ds*2 ^k<10 ^(a.ds.length+delta a k)/\10 ^(a.ds.length+delta a k)<=10*(dval a.ds*2 ^k)/\delta a k<=60:=by
 obtain⟨L,hL,hL1,hLk,hv,ht,hlo,hhi,hlast⟩:=cheat_facts h1 h2
 obtain⟨d,es,hds,hd⟩:=h.head
 have hD:=dval_lt h.ten
 have hDlo:10 ^(a.ds.length - 1)<=dval a.ds:=by rw[hds];simpa using dval_ge hd
 have hn1:1<=a.ds.length:=by rw[hds];simp
 have hl:=lessPre_go h.ten ht (.inr hlast)
 rw[hL,hv] at hl
 have hc:cheat k=(k+1 - L,fives k):=by unfold cheat;rw[if_neg (by omega),hL]
 have hdl:delta a k=(k+1 - L) - if lessPre a.ds (fives k) then 1 else 0:=by unfold delta;rw[hc]
 have hsplit:=pow_split k
 generalize hnd:a.ds.length=n at *
 generalize dval a.ds=D at *
 generalize hF:(5:Nat) ^k=F at *
 generalize hT:(2:Nat) ^k=T at *
 have hFT:F*T=10 ^(k - L)*10 ^L:=by rw[<-Nat.pow_add,<-hsplit];congr 1;omega
 have hLpos:0<10 ^L:=Nat.pow_pos (by decide)
 have hFpos:0<F:=by rw[<-hF];exact Nat.pow_pos (by decide)
 have hTpos:0<T:=by rw[<-hT];exact Nat.pow_pos (by decide)
 cases hb:lessPre a.ds (fives k) with
 |true=>
  rw[hb] at hdl
  simp only[if_true] at hdl
  have hdl':delta a k=k - L:=by omega
  rw[hdl']
  have h3:=hl.1 hb
  refine⟨?_,?_,by omega⟩
  ·
   have h4:D*10 ^L*T<F*10 ^n*T:=Nat.mul_lt_mul_of_pos_right h3 hTpos
   have h5:F*10 ^n*T=10 ^(n+(k - L))*10 ^L:=by
    rw[Nat.mul_assoc,Nat.mul_comm (10 ^n),<-Nat.mul_assoc,hFT,Nat.pow_add,Nat.mul_comm (10 ^n),Nat.mul_assoc,Nat.mul_comm (10 ^L),<-Nat.mul_assoc]
   have h6:D*10 ^L*T=D*T*10 ^L:=by rw[Nat.mul_assoc,Nat.mul_comm (10 ^L),<-Nat.mul_assoc]
   rw[h5,h6] at h4
   exact Nat.lt_of_mul_lt_mul_right h4
  ·
   have h7:10 ^(k - L)<T:=by
    have:10 ^(k - L)*F<T*F:=by
     have q:10 ^(k - L)*F<10 ^(k - L)*10 ^L:=Nat.mul_lt_mul_of_pos_left hhi (Nat.pow_pos (by decide))
     rw[<-hFT,Nat.mul_comm F] at q
     exact q
    exact Nat.lt_of_mul_lt_mul_right this
   have h8:10 ^(n+(k - L))=10*(10 ^(n - 1)*10 ^(k - L)):=by
    rw[<-Nat.pow_add,Nat.mul_comm,<-Nat.pow_succ];congr 1;omega
   rw[h8]
   exact Nat.mul_le_mul_left _ (Nat.mul_le_mul hDlo (Nat.le_of_lt h7))
 |false=>
  rw[hb] at hdl
  have hdl':delta a k=k+1 - L:=by simpa using hdl
  rw[hdl']
  have h3:=hl.2 hb
  refine⟨?_,?_,by omega⟩
  ·have h7:T<=10 ^(k+1 - L):=by
    have:T*10 ^(L - 1)<=10 ^(k+1 - L)*10 ^(L - 1):=by
     have e:(10:Nat) ^(k+1 - L)*10 ^(L - 1)=F*T:=by rw[<-Nat.pow_add,hFT,<-Nat.pow_add];congr 1;omega
     rw[e,Nat.mul_comm]
     exact Nat.mul_le_mul_right _ hlo
    exact Nat.le_of_mul_le_mul_right this (Nat.pow_pos (by decide))
   rw[Nat.pow_add]
   exact Nat.mul_lt_mul_of_lt_of_le hD h7 (Nat.pow_pos (by decide))
  ·have h4:F*10 ^n*T<=D*10 ^L*T:=Nat.mul_le_mul_right _ h3
   have h5:F*10 ^n*T=10 ^(n+(k - L))*10 ^L:=by
    rw[Nat.mul_assoc,Nat.mul_comm (10 ^n),<-Nat.mul_assoc,hFT,Nat.pow_add,Nat.mul_comm (10 ^n),Nat.mul_assoc,Nat.mul_comm (10 ^L),<-Nat.mul_assoc]
   have h6:D*10 ^L*T=D*T*10 ^L:=by rw[Nat.mul_assoc,Nat.mul_comm (10 ^L),<-Nat.mul_assoc]
   rw[h5,h6] at h4
   have h7:=Nat.le_of_mul_le_mul_right h4 hLpos
   have h8:10 ^(n+(k+1 - L))=10*10 ^(n+(k - L)):=by rw[Nat.mul_comm,<-Nat.pow_succ];congr 1;omega
   rw[h8]
   exact Nat.mul_le_mul_left _ h7
end Go.Proofs.YtlbjfafbahphgaaGreatDoor
