/-
table.made, table.New: a new table holds nothing; (*Table).Len.
-/
import Derived.StillTail
import Derived.WalkKit
import Derived.Test.YtncbcaabanoeoaaGreatDoorQ05
import Derived.Test.YtncbcaabanoeoaaGreatDoorQ10
set_option linter.unusedVariables false
set_option linter.unusedSimpArgs false
set_option maxRecDepth 100000
set_option maxHeartbeats 8000000
namespace Go.Proofs.YtncbcaabanoeoaaGreatDoor
open Go Go.RowKit
variable {w0 w:World}{l:Hp}{b po d:Nat}{T:Tb}{ds:List Nat}
theorem Jba (n:Nat):madeCells (Value.cells (.agg #[.int .i64 0,.string ByteArray.empty,.int .i64 0])) (n*3)=(J1t (List.replicate n J0k)).toArray:=by
 apply Array.ext_getElem?
 intro m
 obtain⟨a,j,hj,rfl⟩:∃a j,j<3/\m=a*3+j:=⟨m/3,m%3,Nat.mod_lt _ (by omega),by omega⟩
 have h2:(J1t (List.replicate n J0k)).toArray[a*3+j]? =(J1t (List.replicate n J0k))[a*3+j]? :=by simp
 rw[h2,J26 _ _ _ hj,List.length_replicate];simp only[madeCells,Value.cells,Array.getElem?_map,Array.getElem?_range];by_cases ha:a<n
 ·have hr:Jo (List.replicate n J0k) a=J0k:=by simp[Jo,List.getD,List.getElem?_replicate,ha]
  rw[if_pos ha,if_pos (by omega),hr]
  have e:(a*3+j)%3=j:=by omega
  obtain rfl|rfl|rfl:j=0\/j=1\/j=2:=by omega
  all_goals simp[e,J3z,J0k]
 ·rw[if_neg ha,if_neg (by omega)];rfl
theorem Jrf:(Tryz.prog.info? 85).map (fun i=>(i.zero,i.size,i.bytes))=some (some (.agg #[.int .i64 0,.string ByteArray.empty,.int .i64 0]),3,32):=by kernel_rfl
theorem Jk2 (n:Nat) (w:World) (hB:n<=1099511627776):
 Calls Tryz.prog 33 #[.int .i64 n] w fun e w'=>∃pb,e= .returned (.agg #[.slice (some ⟨pb,0,none⟩) n n,.int .i64 0,.int .i64 0])/\J3 w [] w' [(pb,J2e (List.replicate n J0k))]:=by
 obtain⟨i,hi,hz,hsz,hby⟩:=info_parts Jrf
 have hmk:∀w,(Instr.makeSlice 78 (.int .i64 (n:Int)) (.int .i64 (n:Int))).run Tryz.prog w= .ok (.slice (some ⟨w.heap.size,0,none⟩) n n) (w.alloc (J2e (List.replicate n J0k))):=by
  intro w
  have:=run_make (P:=Tryz.prog) w 78 85 i _ Tryz.underlying78 hi hz .i64 .i64 n n (by omega) (by omega) (by rw[hby];omega) (by omega)
  rw[hsz,Int.toNat_natCast,Jba] at this;exact this
 clear hz hsz hby hi;go_enter Tryz.func33,Tryz.ntmps33;go_wp2_with fail;have S1:=((J3.refl (Own.nil w)).alloc (.cells #[.slice (some ⟨w.heap.size+1,0,none⟩) n n,.int .i64 0,.int .i64 0] 80)).alloc (J2e (List.replicate n J0k));exact bodyPost_ret (v:=.agg #[.slice (some ⟨w.heap.size+1,0,none⟩) n n,.int .i64 0,.int .i64 0]) (by simp[results,Tryz.results33,go_sem]) rfl
  ⟨w.heap.size+1,rfl,by simpa using S1.less (List.Sublist.cons_cons _ (List.nil_sublist _))⟩
theorem Jlk (w:World):Calls Tryz.prog 18 #[] w fun e w'=>∃b l',e= .returned (.pointer (some ⟨b,0,none⟩))/\K5 l' b [] 0/\J3 w [] w' l':=by
 have hmade:=hid (Jk2 8 w (by omega))
 go_enter Tryz.func18,Tryz.ntmps18;go_wp2_with fail;refine hmade.out.mono ?_;rintro e w1 ⟨pb,rfl,S1⟩;replace S1:=hid S1;go_wp2_with fail;go_ret;refine⟨w1.heap.size,_,rfl,⟨Jg9,pb,none,(Ju3 Js).weak (Nat.zero_le _),rfl,rfl⟩,?_⟩
 exact S1.out.alloc _
theorem Jlj (l:Hp) (b:Nat) (M:KV) (c:Nat) (w:World) (hT:K5 l b M c) (ho:Own w l):
 Calls Tryz.prog 16 #[.pointer (some ⟨b,0,none⟩)] w fun e w'=>e= .returned (.int .i64 M.length)/\∃n,w'=w.drewN n:=by
 obtain⟨T,po,pf,hok,hmv,rfl⟩:=hT
 have c1:=(J0a ho.head).c1;have c4:=(J0a ho.head).c4;have hlen:=hok.lens;have h1:=hok.old.fl;have h2:=hok.fresh.fl;have hB:=hok.lenB;have hB2:T.fresh.ps.length<=1099511627776:=by
  cases hm:T.moving with
  |true=>exact(hok.busy hm).2.2.1
  |false=>rw[(hok.idle hm).1];simp[J5a]
 rw[J4u] at h1 h2;have:=Jha T.old.ps 1
 have:=Jha T.fresh.ps 1
 rw[J4u] at *;have hsum:T.old.fl+T.fresh.fl=(M.length:Int):=by omega
 have hb1:0<=T.old.fl/\T.old.fl<=1099511627776:=by omega
 have hb2:0<=T.fresh.fl/\T.fresh.fl<=1099511627776:=by omega
 have hw:IntKind.i64.wrap (T.old.fl+T.fresh.fl)=T.old.fl+T.fresh.fl:=IntWalk.i64_in _ (by omega)
 generalize T.old.fl=x at *;generalize T.fresh.fl=y at *;rw[<-hsum];clear h1 h2 hlen hB hB2 hok hmv ho hsum;go_enter Tryz.func16,Tryz.ntmps16;go_wp2_with fail;go_quiet (fail);go_wp2_with fail;go_ret;exact⟨rfl,_,rfl⟩
def Jdi (b po:Nat) (pf:Option Nat) (T:Tb) (M:KV) (w:World) (e:Ending) (w':World):Prop:=
 e= .returned (.tuple #[])/\∃pf' T',J3 w (J08 b po pf T) w' (J08 b po pf' T')/\Kp Js T' M 4/\T'.moving=pf'.isSome/\T'.old=T.old/\(T'.moving=false->2*(T.old.fl+T.old.gr)<T.old.ps.length)/\T'.moving=(T.moving||decide (¬2*(T.old.fl+T.old.gr)<T.old.ps.length))/\
  (T.moving=true->T'=T)/\(T.moving=false->T'.moving=true->T'.fresh.ps=List.replicate T'.fresh.ps.length J0k)
theorem Jrz {w1:World} {pb n:Nat} (hS:J3 w0 l w (J08 b po none T)) (hm:J3 w [] w1 [(pb,J2e (List.replicate n J0k))]):
 J3 w0 l ((((w1.setCell ⟨b,3,none⟩ (.slice (some ⟨pb,0,none⟩) n n)).setCell ⟨b,4,none⟩ (.int .i64 0)).setCell ⟨b,5,none⟩ (.int .i64 0)).setCell ⟨b,6,none⟩ (.bool true))
  (J08 b po (some pb) ⟨T.old,⟨List.replicate n J0k,0,0⟩,true,T.next⟩):=by
 have h1:=(hS.beginning hm).permR (l2:=[(b,J2i po none T),(po,J2e T.old.ps),(pb,J2e (List.replicate n J0k))]) (List.perm_append_comm (l₁:=[_]) (l₂:=[_,_]));have h2:=(((h1.set 3 (.slice (some ⟨pb,0,none⟩) n n)).set 4 (.int .i64 0)).set 5 (.int .i64 0)).set 6 (.bool true);have e:((((J0x po none T).setIfInBounds 3 (.slice (some ⟨pb,0,none⟩) n n)).setIfInBounds 4 (.int .i64 0)).setIfInBounds 5 (.int .i64 0)).setIfInBounds 6 (.bool true)=J0x po (some pb) ⟨T.old,⟨List.replicate n J0k,0,0⟩,true,T.next⟩:=by
  simp[J0x,Jcw]
 rw[e] at h2;exact h2
theorem Jt7 (b po:Nat) (pf:Option Nat) (T:Tb) (M:KV) (w:World) (hok:Kp Js T M 4) (hmv:T.moving=pf.isSome) (hM:M.length<=68719476736) (ho:Own w (J08 b po pf T)):
 Calls Tryz.prog 185 #[.pointer (some ⟨b,0,none⟩)] w (Jdi b po pf T M w):=by
 have hpost:Hid (∀w' pf' T',J3 w (J08 b po pf T) w' (J08 b po pf' T')->Kp Js T' M 4->T'.moving=pf'.isSome->T'.old=T.old->(T'.moving=false->2*(T.old.fl+T.old.gr)<T.old.ps.length)->T'.moving=(T.moving||decide (¬2*(T.old.fl+T.old.gr)<T.old.ps.length))->
  (T.moving=true->T'=T)->(T.moving=false->T'.moving=true->T'.fresh.ps=List.replicate T'.fresh.ps.length J0k)->Jdi b po pf T M w (.returned (.tuple #[])) w'):=fun w' pf' T' h1 h2 h3 h4 h5 h6 h7 h8=>⟨rfl,pf',T',h1,h2,h3,h4,h5,h6,h7,h8⟩
 have hst:=hid (J3.refl ho);obtain⟨c0,c1,c2,c3,c4,c5,c6,c7,fz,hlt⟩:=J0a ho.head
 have hlen:=hok.len;have hlB:=hok.lenB;have hbd:=hok.old.bd hlB;have hbd1:=hbd.1;have hbd2:=hbd.2;cases hm:T.moving with
 |true=>
  rw[hm] at c6;have hok':=hid hok;have hmv':=hid hmv;have hm':=hid hm;clear hok hmv hm ho c0 c1 c2 c3 c4 c5 c7 hbd;go_enter Tryz.func185,Tryz.ntmps185;go_wp2_with fail;go_quiet (fail);go_wp2_with fail;refine bodyPost_ret (results_none rfl _ _ _) rfl ?_;exact hpost.out _ pf T (hst.out.drewN nq) hok'.out hmv'.out rfl (fun h=>by rw[hm'.out] at h;cases h) (by rw[hm'.out];rfl) (fun _=>rfl) (fun h=>by rw[hm'.out] at h;cases h)
 |false=>
  rw[hm] at c6;obtain rfl:pf=none:=by rw[hm] at hmv;cases pf with|none=>rfl|some f=>simp at hmv
  have hs1:IntKind.i64.wrap (T.old.fl+T.old.gr)=T.old.fl+T.old.gr:=IntWalk.i64_in _ (by omega)
  have hs2:IntKind.i64.wrap (2*(T.old.fl+T.old.gr))=2*(T.old.fl+T.old.gr):=IntWalk.i64_in _ (by omega)
  by_cases hfit:2*(T.old.fl+T.old.gr)<T.old.ps.length
  ·have ht:decide (2*(T.old.fl+T.old.gr)<(T.old.ps.length:Int))=true:=by simpa using hfit
   have hok':=hid hok;have hm':=hid hm;have hfit':=hid hfit;clear hok hmv hm ho c3 c4 c5 c7 hbd hfit;go_enter Tryz.func185,Tryz.ntmps185;go_wp2_with fail;go_quiet (fail);go_wp2_with fail;refine bodyPost_ret (results_none rfl _ _ _) rfl ?_;exact hpost.out _ none T (hst.out.drewN nq) hok'.out hm'.out rfl (fun _=>hfit'.out) (by rw[hm'.out];simpa using hfit'.out) (fun _=>rfl) (fun _ h=>by rw[hm'.out] at h;cases h)
  ·have ht:decide (2*(T.old.fl+T.old.gr)<(T.old.ps.length:Int))=false:=by simpa using hfit
   have hflM:T.old.fl<=(M.length:Int):=by
    have h1:=hok.old.fl;have h2:=hok.lens;rw[J4u] at h1;omega
   have hflM':T.old.fl<=68719476736:=by omega
   have hnx:=(hok.idle hm).2;have hok':=hid hok;have hm':=hid hm;have hfit':=hid hfit;have hnx':=hid hnx;have hlen2:(0:Int)<=(T.old.ps.length:Int)/2:=by omega
   clear hok hmv hm ho c3 c4 c5 c7 hbd hfit hnx hflM;have hmade:=hid (fun n w hB=>Jk2 n w hB)
   have hmk:∀(w1 w2 w':World) (n pb:Nat),J3 w (J08 b po none T) w1 (J08 b po none T)->J3 w1 [] w2 [(pb,J2e (List.replicate n J0k))]->8<=n->n<=1099511627776->T.old.ps.length<=2*n+1->T.old.fl<((n/4:Nat):Int)->
    w'=(((w2.setCell ⟨b,3,none⟩ (.slice (some ⟨pb,0,none⟩) n n)).setCell ⟨b,4,none⟩ (.int .i64 0)).setCell ⟨b,5,none⟩ (.int .i64 0)).setCell ⟨b,6,none⟩ (.bool true)->
    Jdi b po none T M w (.returned (.tuple #[])) w':=by
    intro w1 w2 w' n pb hS hmd h8 hB hL hf hw
    subst hw;have hfin:=hok'.out.grown (room:=n) hm'.out h8 hB hL (by omega)
    have hg:=Jrz hS hmd;rw[hnx'.out] at hg;exact hpost.out _ (some pb) _ hg hfin rfl rfl (fun h=>by cases h) (by rw[hm'.out];simpa using hfit'.out) (fun h=>by rw[hm'.out] at h;cases h) (fun _ _=>by simp)
   replace hmk:=hid hmk;clear hpost;obtain⟨r0,hr0,hr8,hrL,hrB⟩:∃r0:Nat,(if(8:Int)<(T.old.ps.length:Int)/2 then(T.old.ps.length:Int)/2 else 8)=(r0:Int)/\8<=r0/\T.old.ps.length<=2*r0+1/\r0<=1099511627776:=by
    by_cases h:(8:Int)<(T.old.ps.length:Int)/2
    ·exact⟨T.old.ps.length/2,by rw[if_pos h];omega,by omega,by omega,by omega⟩
    ·exact⟨8,by rw[if_neg h];rfl,by omega,by omega,by omega⟩
   replace hr0:=hid hr0;by_cases h8:(8:Int)<(T.old.ps.length:Int)/2
   ·have hrr:=hr0.out
    rw[if_pos h8] at hrr;go_enter Tryz.func185,Tryz.ntmps185;go_wp2_with fail;go_quiet (fail);clear ht hs1 hs2;go_wp2_with fail;go_loop [2] (fun r=>∃n:Nat,r= .int .i64 n/\8<=n/\T.old.ps.length<=2*n+1/\n<=1099511627776) (fun r=>2199023255552 - (intOf r).toNat)
    case atStart=>exact⟨r0,rfl,hr8,hrL,hrB⟩
    case round=>
     clear hrr hr8 hrL hrB;obtain⟨n,rfl,hn8,hnL,hnB⟩:=hrel
     by_cases hgo:(n:Int)/4<=T.old.fl
     ·go_wp2_with fail
      go_round
      case rel=>exact⟨n*2,by go_num,by omega,by omega,by omega⟩
      case measure=>simp[intOf];omega
     ·have hgo':T.old.fl<(n:Int)/4:=by omega
      have hlast:=hid (show T.old.fl<((n/4:Nat):Int) by omega)
      go_wp2_with fail;refine(hmade.out n _ hnB).mono ?_
      rintro e w2 ⟨pb,rfl,S2⟩;have S3:=J0a (((hst.out.drewN nq).beginning S2).own.right (l:=[_])).head;obtain⟨d0,d1,d2,d3,d4,d5,d6,d7,dz,dlt⟩:=S3
      replace S2:=hid S2;go_wp2_with fail;go_end0
      exact hmk.out _ _ _ n pb (hst.out.drewN nq) S2.out hn8 hnB hnL hlast.out rfl
   ·have hrr:=hr0.out
    rw[if_neg h8] at hrr;obtain rfl:r0=8:=by omega
    clear hr0 hrr;go_enter Tryz.func185,Tryz.ntmps185;go_wp2_with fail;go_quiet (fail);clear ht hs1 hs2;go_wp2_with fail;go_loop [2] (fun r=>∃n:Nat,r= .int .i64 n/\8<=n/\T.old.ps.length<=2*n+1/\n<=1099511627776) (fun r=>2199023255552 - (intOf r).toNat)
    case atStart=>exact⟨8,rfl,hr8,hrL,hrB⟩
    case round=>
     clear hr8 hrL hrB;obtain⟨n,rfl,hn8,hnL,hnB⟩:=hrel
     by_cases hgo:(n:Int)/4<=T.old.fl
     ·go_wp2_with fail
      go_round
      case rel=>exact⟨n*2,by go_num,by omega,by omega,by omega⟩
      case measure=>simp[intOf];omega
     ·have hgo':T.old.fl<(n:Int)/4:=by omega
      have hlast:=hid (show T.old.fl<((n/4:Nat):Int) by omega)
      go_wp2_with fail;refine(hmade.out n _ hnB).mono ?_
      rintro e w2 ⟨pb,rfl,S2⟩;have S3:=J0a (((hst.out.drewN nq).beginning S2).own.right (l:=[_])).head;obtain⟨d0,d1,d2,d3,d4,d5,d6,d7,dz,dlt⟩:=S3
      replace S2:=hid S2;go_wp2_with fail;go_end0
      exact hmk.out _ _ _ n pb (hst.out.drewN nq) S2.out hn8 hnB hnL hlast.out rfl
def Jd2 (l:Hp) (b:Nat) (M:KV) (key:ByteArray) (n:Int) (w:World) (e:Ending) (w':World):Prop:=
 e= .returned (.bool (look M key).isNone)/\∃l',K5 l' b ((key,n)::J07 M key) 0/\J3 w l w' l'
theorem Jd2.mk {l':Hp} {M:KV} {key:ByteArray} {n:Int} {w':World} {is:Bool} (hi:(look M key).isNone=is) (h:K5 l' b ((key,n)::J07 M key) 0) (hs:J3 w l w' l'):
 Jd2 l b M key n w (.returned (.bool is)) w':=by subst hi;exact⟨rfl,l',h,hs⟩
theorem Jal (ps:List Pl) (i:Nat) (n:Int) (hi:i<ps.length):(J1t ps).toArray.setIfInBounds (i*3+2) (.int .i64 n)=(J1t (ps.set i ⟨(Jo ps i).st,(Jo ps i).key,n⟩)).toArray:=by
 have h:=J89 ps i ⟨(Jo ps i).st,(Jo ps i).key,n⟩ hi;rw[<-h];have hl:=Jch ps;have e0:=J26 ps i 0 (by omega)
 have e1:=J26 ps i 1 (by omega)
 rw[if_pos hi] at e0 e1;congr 1
 simp only[List.setIfInBounds_toArray];congr 1
 apply List.ext_getElem?
 intro m
 simp only[List.getElem?_set,List.length_set];by_cases h1:i*3+1=m
 ·subst h1
  rw[if_pos rfl,if_pos (by omega),e1]
  rfl
 ·rw[if_neg h1]
  by_cases h0:i*3=m
  ·subst h0
   rw[if_pos rfl,if_pos (by omega)]
   simpa[J3z] using e0
  ·rw[if_neg h0]
theorem Jnu {i:Nat} {pf:Option Nat} {n:Int} (hS:J3 w0 l w (J08 b po pf T)) (hi:i<T.old.ps.length):
 J3 w0 l (w.setCell ⟨po,i*3+2,none⟩ (.int .i64 n)) (J08 b po pf {T with old:=T.old.setN i n}):=by
 have h:=hS.set2 (i*3+2) (.int .i64 n);rw[Jal _ _ _ hi] at h;have e:J2i po pf T=J2i po pf {T with old:=T.old.setN i n}:=by simp[J2i,J0x,Row.setN]
 rw[e] at h;exact h
theorem Jic {f i:Nat} {n:Int} (hS:J3 w0 l w (J08 b po (some f) T)) (hi:i<T.fresh.ps.length):
 J3 w0 l (w.setCell ⟨f,i*3+2,none⟩ (.int .i64 n)) (J08 b po (some f) {T with fresh:=T.fresh.setN i n}):=by
 have h:=J3.set3 (p:=(b,J2i po (some f) T)) (q:=(po,J2e T.old.ps)) hS (i*3+2) (.int .i64 n);rw[Jal _ _ _ hi] at h;have e:J2i po (some f) T=J2i po (some f) {T with fresh:=T.fresh.setN i n}:=by simp[J2i,J0x,Row.setN]
 rw[e] at h;exact h
theorem Jvk (l:Hp) (b:Nat) (M:KV) (key:ByteArray) (n:Int) (w:World) (hT:K5 l b M 0) (hM:∀k∈M.map Prod.fst,k.size<=maxLen) (hMl:M.length<=68719476736) (hk:key.size<=maxLen) (ho:Own w l):
 Calls Tryz.prog 146 #[.pointer (some ⟨b,0,none⟩),.string key,.int .i64 n] w (Jd2 l b M key n w):=by
 have hstep:=hid (Jbu l b M w hT hM ho);clear hT hM ho;go_enter Tryz.func146,Tryz.ntmps146;go_wp2_with fail;refine hstep.out.mono ?_;rintro e w1 ⟨rfl,l1,hT1,S1⟩;obtain⟨T,po,pf,hok,hmv,rfl⟩:=hT1
 have hat:=hid (Jly b po pf T M 4 key w1 hok hmv hk S1.own);replace S1:=hid S1;replace hmv:=hid hmv;go_wp2_with fail;refine hat.out.mono ?_;rintro e w2 ⟨⟨nd,rfl⟩,v,i,rfl,hv⟩;cases hv with
 |fresh i hm hi h1 hke=>
  have hl:=hok.memFresh hi h1;have hfin:=hok.setFresh (n:=n) hm hi h1;rw[hke] at hl hfin;have hpf:∃f,pf=some f:=by have:=hmv.out;rw[hm] at this;exact Option.isSome_iff_exists.1 this.symm
  obtain⟨f,rfl⟩:=hpf
  have c3:=(J0a S1.out.own.head).c3;have hpl:J0o w1 f T.fresh.ps:=S1.out.own.tail.tail.head;have p2:=hpl.n hi;have g2:w1.frozen? ⟨f,i*3+2,none⟩=false:=Jg hpl _;have hB:=(hok.busy hm).2.2.1;simp only[Jcw] at c3;have hset:=hid (Jic (n:=n) (S1.out.drewN nd) hi);replace hl:=hid hl;replace hfin:=hid hfin;clear hat hm h1 hke hpl hok;go_wp2_with fail;go_ret;exact .mk (by rw[hl.out];rfl) ⟨_,po,some f,hfin.out.weak (Nat.zero_le _),hmv.out,rfl⟩ hset.out
 |old i hi h1 hke=>
  have hl:=hok.memOld hi h1;have hfin:=hok.setOld (n:=n) hi h1;rw[hke] at hl hfin;have c0:=(J0a S1.out.own.head).c0;have hpl:J0o w1 po T.old.ps:=S1.out.own.tail.head;have p2:=hpl.n hi;have g2:w1.frozen? ⟨po,i*3+2,none⟩=false:=Jg hpl _;have hB:=hok.lenB;have hset:=hid (Jnu (n:=n) (S1.out.drewN nd) hi);replace hl:=hid hl;replace hfin:=hid hfin;clear hat h1 hke hpl hok;go_wp2_with fail;go_ret;exact .mk (by rw[hl.out];rfl) ⟨_,po,pf,hfin.out.weak (Nat.zero_le _),hmv.out,rfl⟩ hset.out
 |none hno hnf=>
  have hl:=hok.noneAt hno hnf;have hw:=J7d hl;have hnk:=J90.1 hl;have hg:=hid (Jt7 b po pf T M (w1.drewN nd) hok hmv.out hMl (S1.out.drewN nd).own);have hpost:Hid (∀w' l',K5 l' b ((key,n)::M) 0->J3 w l w' l'->Jd2 l b M key n w (.returned (.bool true)) w'):=fun w' l' h1 h2=>.mk (by rw[hl];rfl) (by rw[hw];exact h1) h2
  replace hl:=hid hl;replace hnk:=hid hnk;clear hat hw;have hok':=hid hok;clear hok;replace hno:=hid hno;replace hnf:=hid hnf;go_wp2_with fail;refine hg.out.mono ?_;rintro e w3 ⟨rfl,pf',T',S3,hok3,hmv3,hold,hfit,hmo,hsame,hnew⟩;have S4:=(S1.out.drewN nd).trans S3;have c6:=(J0a S4.own.head).c6;clear hg hmo;replace S4:=hid S4;cases hm:T'.moving with
  |true=>
   rw[hm] at c6;obtain⟨f,rfl⟩:∃f,pf'=some f:=by rw[hm] at hmv3;exact Option.isSome_iff_exists.1 hmv3.symm
   have hfree:Jdd T'.fresh.ps key:=by
    intro i p hp hs hke
    have:=hok3.memFresh (List.getElem?_eq_some_iff.1 hp).1 (by rw[J4q hp];exact hs)
    rw[J4q hp,hke,hl.out] at this;cases this
   have hB:=(hok3.busy hm).2.2.1;have h8:=(hok3.busy hm).2.1;have hfd:=J57 Js T'.fresh.ps key hok3.fresh.ok (by omega)
   cases hr:J18 Js T'.fresh.ps key with
   |mk r1 r2=>
   rw[hr] at hfd;cases r2 with
   |true=>
    obtain⟨i',_,hi',hs',hk'⟩:=hfd.yes rfl
    exact absurd hk' (hfree i' _ (J6w hi') hs')
   |false=>
   obtain⟨i',hi',hpp⟩:=hfd.place rfl (hok3.room hm)
   simp only at hi'
   subst hi';have hput:=hid (Jge b po f i' T' key n w3 S4.out (r:=[]) (by simp) hk hB hok3.fresh hr hpp)
   have hfin:=hid (hok3.putFresh (n:=n) hm hnk.out hpp);have hmt:=hid hm;clear hok3 hm hB h8 hfd hr hpp hfree hmv3 hold hfit hsame hnew S3;go_wp2_with fail;refine hput.out.mono ?_;rintro e w5 ⟨rfl,S5⟩;replace S5:=hid S5;go_wp2_with fail;go_ret;exact hpost.out _ _ ⟨_,po,some f,hfin.out,hmt.out,rfl⟩ (by simpa using S5.out)
  |false=>
   rw[hm] at c6;obtain rfl:pf'=none:=by rw[hm] at hmv3;cases pf' with|none=>rfl|some f=>cases hmv3
   have hfree:Jdd T'.old.ps key:=by
    intro i p hp hs hke
    have:=hok3.memOld (List.getElem?_eq_some_iff.1 hp).1 (by rw[J4q hp];exact hs)
    rw[J4q hp,hke,hl.out] at this;cases this
   have hB:=hok3.lenB;have h8:=hok3.len;have hfd:=J57 Js T'.old.ps key hok3.old.ok (by omega)
   cases hr:J18 Js T'.old.ps key with
   |mk r1 r2=>
   rw[hr] at hfd;cases r2 with
   |true=>
    obtain⟨i',_,hi',hs',hk'⟩:=hfd.yes rfl
    exact absurd hk' (hfree i' _ (J6w hi') hs')
   |false=>
   obtain⟨i',hi',hpp⟩:=hfd.place rfl (hok3.roomOld (by rw[hold];exact hfit hm))
   simp only at hi'
   subst hi';have hput:=hid (Jx2 b po i' none T' key n w3 S4.out (r:=[]) (by simp) hk hB hok3.old hr hpp)
   have hfin:=hid (hok3.putOld (n:=n) (c':=0) hm hnk.out hpp);have hmt:=hid hm;clear hok3 hm hB h8 hfd hr hpp hfree hmv3 hold hfit hsame hnew S3;go_wp2_with fail;refine hput.out.mono ?_;rintro e w5 ⟨rfl,S5⟩;replace S5:=hid S5;go_wp2_with fail;go_ret;exact hpost.out _ _ ⟨_,po,none,hfin.out,hmt.out,rfl⟩ (by simpa using S5.out)
section
variable {P:Program} {ops:Array Oper} {md:Region.Mode} {C:World->Prop}
def Jjn (P:Program) (md:Region.Mode) (ops:Array Oper) (C:World->Prop) (n:Nat) (L:Array Bool->Act->Prop):Nat->Array Bool->Act->Prop
 |0,done,a=>L done a
 |f+1,done,a=>Region.ready md ops done≠[]/\∀i∈Region.ready md ops done,i<n/\qOp P ops C i (Jjn P md ops C n L f (done.setIfInBounds i true)) a
theorem Jqj {n g:Nat} {L:Array Bool->Act->Prop} {Q:Exit->Act->World->Prop} (hL:∀done a,L done a->∀w,C w->wpAny P md ops Q g done a w):
 ∀(f:Nat) (done:Array Bool) (a:Act) (w:World),C w->Jjn P md ops C n L f done a->wpAny P md ops Q (f+g) done a w:=by
 intro f
 induction f with
 |zero=>intro done a w hw h;rw[Nat.zero_add];exact hL done a h w hw
 |succ f ih=>
  intro done a w hw h
  rw[show f+1+g=(f+g)+1 by omega]
  exact⟨fun h0=>absurd h0 h.1,fun i hi=>wpOp_of_qOp hw (fun a' w' hw' h'=>ih _ a' w' hw' h') (h.2 i hi).2⟩
theorem Jjo {n i:Nat} {o:Oper} {v:Value} {L:Array Bool->Act->Prop} (ho:ops[i]? =some o) (hsel:∀(j:Nat) (o:Oper) cs b,ops[j]? =some o->o.op≠ .select cs b)
 (hs:Region.sinkB md ops n=true) (hc:Region.chainB md ops n=true) (hn:n<ops.size) (hin:i<n) (hL:∀done a,L done a->∀j∈Region.ready md ops done,n<=j)
 (f:Nat):∀(done:Array Bool) (a:Act),HeadInv md ops n done->
  (∀j oj,ops[j]? =some oj->j≠i->done.getD j true=false->(∀e∈oj.after,Region.binds md e=true->e.on≠i)->o.apart ops oj=true)->
  i∈Region.ready md ops done->YieldsIn P ops C o v a->Jjn P md ops C n L f (done.setIfInBounds i true) (a.put o.dst v)->Jjn P md ops C n L (f+1) done a:=by
 induction f with
 |zero=>
  intro done a inv _ hr hy H
  have hun:=(mem_ready.1 hr).1;refine⟨List.ne_nil_of_mem hr,fun j hj=>?_⟩
  have hjn:j<n:=Nat.lt_of_not_le fun h=>tail_waits hs hc hn inv _ i rfl hin hun j h hj
  by_cases e:j=i
  ·subst e;exact⟨hjn,hy.qOp ho H⟩
  ·exact absurd (hL _ _ H j (ready_mono hj e)) (by omega)
 |succ f ih=>
  intro done a inv hfree hr hy H
  have hun:=(mem_ready.1 hr).1;refine⟨List.ne_nil_of_mem hr,fun j hj=>?_⟩
  have hjn:j<n:=Nat.lt_of_not_le fun h=>tail_waits hs hc hn inv _ i rfl hin hun j h hj
  refine⟨hjn,?_⟩
  by_cases e:j=i
  ·subst e;exact hy.qOp ho H
  ·obtain⟨hjun,oj,hoj,hall⟩:=mem_ready.1 hj
   have hnot:∀e∈oj.after,Region.binds md e=true->e.on≠i:=fun e he hb heq=>by
    have:=hall e he hb
    rw[heq,getD_both hun] at this;cases this
   have h2:=qOp_put hoj (hfree j oj hoj e hjun hnot) (fun cs b=>hsel i o cs b ho) (fun cs b=>hsel j oj cs b hoj) hy (H.2 j (ready_mono hj e)).2
   refine qOp_mono (fun a' h3=>ih (done.setIfInBounds j true) a' (inv.set hj hjn) (fun k ok hk hki hkun hno=>hfree k ok hk hki ?_ hno) (ready_mono hr (Ne.symm e)) h3.1 ?_) h2
   ·by_cases hjk:j=k
    ·subst hjk;exact hjun
    ·rwa[getD_set_ne true hjk] at hkun
   ·rw[Array.setIfInBounds_comm _ _ e]
    exact h3.2
theorem Jqi {n g:Nat} {T:Act->Prop} (hsel:Region.noSelect ops=true) (hs:Region.sinkB md ops n=true) (hc:Region.chainB md ops n=true) (hn:n<ops.size)
 (l:List Oper):∀(k:Nat) (done:Array Bool) (a:Act),(∀j,j<l.length->l[j]? =ops[k+j]?)->k+l.length=n->HeadInv md ops n done->
 Region.lexHead md ops g l.length k done=true->wpQuiet P ops C T l a->Jjn P md ops C n (fun done' a'=>Region.seqB md ops g n done'=true/\T a') l.length done a:=by
 induction l with
 |nil=>
  intro k done a _ hk _ hB h
  have:k=n:=by simpa using hk
  subst this;exact⟨by simpa[Region.lexHead] using hB,h⟩
 |cons o l ih=>
  intro k done a hl hk inv hB h
  have h0:ops[k]? =some o:=by simpa using (hl 0 (by simp)).symm
  simp only[List.length_cons,Region.lexHead,Bool.and_eq_true] at hB;simp only[List.length_cons] at hk;have hr:k∈Region.ready md ops done:=by simpa using hB.1.1
  obtain⟨v,hy,hK⟩:=yieldsIn_of_qOp (C:=C) (K:=wpQuiet P ops C T l) h0 (by unfold qOp;simp only[h0];exact h)
  exact Jjo h0 (Region.noSelect_spec hsel) hs hc hn (by omega) (fun done' a' hL=>seqB_ready hL.1) l.length done a inv (Region.free_spec h0 hB.1.2) hr hy
   (ih (k+1) _ _ (fun j hj=>by have:=hl (j+1) (by simpa using hj);simpa[Nat.add_assoc,Nat.add_comm 1 j] using this) (by omega) (inv.set hr (by omega)) hB.2 hK)
end
theorem Jq {P:Program} {id:Nat} {Q:Exit->Act->World->Prop} {a:Act} {L:Hp} {ops:List Oper} (n:Nat) (hS:J3 w0 l w L) (hm:P.follows .mixedOrders=true) (hB:Region.lexTailB .any ops.toArray n=true)
 (h:Nonempty (InW w0 l L)->wpQuiet P ops.toArray (fun w'=>∃p:InW w0 l L,w'=p.w) (fun a'=>∀w',(∃p:InW w0 l L,w'=p.w)->wpList P ops.toArray Q (ops.drop n) a' w') (ops.take n) a):(Code.region id ops.toArray true).wp P Q a w:=by
  simp only[Region.lexTailB,Bool.and_eq_true,decide_eq_true_eq] at hB;obtain⟨⟨⟨⟨hsel,hn⟩,hs⟩,hc⟩,hlex⟩:=hB
  have hn':n<ops.length:=by simpa using hn
  have htl:(ops.take n).length=n:=by simp;omega
  have hdl:(ops.drop n).length=ops.toArray.size - n:=by simp
  have inv0:HeadInv .any ops.toArray n (Array.replicate ops.toArray.size false):=
   ⟨by simp,fun j oj _ hl=>(by rw[getD_replicate_false] at hl;cases hl),fun t _ ht=>getD_in (by simpa using ht) (getD_replicate_false _ _)⟩
  have H:=Jqi (md:=.any) (g:=ops.toArray.size - n) hsel hs hc hn (ops.take n) 0 _ a (fun j hj=>by
   rw[htl] at hj;simp[hj]) (by omega) inv0 (by rw[htl];exact hlex) (h ⟨⟨w,hS⟩⟩)
  refine wp_region_any hm ?_;have R:=Jqj (Q:=Q) (g:=ops.toArray.size - n) (fun done a' hL w' hw'=>by
   have:=wpAny_of_seq (md:=.any) (Q':=Q) (ops.drop n) n done a' w' (fun j=>by simp[List.getElem?_drop]) (by rw[hdl];exact hL.1) (hL.2 w' hw')
   rwa[hdl] at this) _ _ _ w.drew ⟨⟨w.drew,hS.drew⟩,rfl⟩ H
  rw[htl,show n+(ops.toArray.size - n)=ops.toArray.size by omega] at R
  exact R
theorem J04 {P:Program} {ops os:Array Oper} {C:World->Prop} {Q:Exit->Act->World->Prop} {a:Act} {L:Hp} {rest:List Oper} (h:∀w',J3 w0 l w' L->wpList P os Q rest a w'):
 wpQuiet P ops C (fun a'=>∀w',(∃p:InW w0 l L,w'=p.w)->wpList P os Q rest a' w') [] a:=wpQuiet_nil (fun _ ⟨p,hp⟩=>by rw[hp];exact h p.w p.h)
def J35 (ds:List Nat):Nat:=ds.foldl (fun n d=>10*n+d) 0
theorem Jdx (ds:List Nat):∀n,ds.foldl (fun n d=>10*n+d) n=n*10 ^ds.length+J35 ds:=by
 induction ds with
 |nil=>intro n;simp[J35]
 |cons d ds ih=>
  intro n
  show List.foldl _ (10*n+d) ds=_+List.foldl _ (10*0+d) ds
  rw[ih,ih (10*0+d),List.length_cons,Nat.pow_succ,Nat.add_mul,Nat.mul_zero,Nat.zero_add];have:10*n*10 ^ds.length=n*(10 ^ds.length*10):=by
   rw[Nat.mul_comm 10 n,Nat.mul_assoc,Nat.mul_comm 10]
  omega
@[simp] theorem Jzm:J35 []=0:=rfl
theorem J8p (d:Nat) (ds:List Nat):J35 (d::ds)=d*10 ^ds.length+J35 ds:=by
 show List.foldl _ (10*0+d) ds=_
 rw[Jdx];simp
theorem Jja (a b:List Nat):J35 (a++b)=J35 a*10 ^b.length+J35 b:=by
 show List.foldl _ 0 (a++b)=_
 rw[List.foldl_append,Jdx];rfl
theorem Jfs (a:List Nat) (d:Nat):J35 (a++[d])=J35 a*10+d:=by rw[Jja];simp[J35]
theorem Jhj (h:∀d∈ds,d<10):J35 ds<10 ^ds.length:=by
 induction ds with
 |nil=>simp
 |cons d ds ih=>
  rw[J8p,List.length_cons,Nat.pow_succ];have h1:=ih fun x hx=>h x (by simp[hx])
  have h2:=h d (by simp)
  have h3:d*10 ^ds.length<=9*10 ^ds.length:=Nat.mul_le_mul_right _ (by omega)
  omega
theorem Jw7 (h:1<=d):10 ^ds.length<=J35 (d::ds):=by
 rw[J8p];have:1*10 ^ds.length<=d*10 ^ds.length:=Nat.mul_le_mul_right _ h
 omega
structure Dc where
 ds:List Nat
 dp:Int
 lost:Bool
def J3a:List Nat->List Nat
 |[]=>[]
 |d::ds=>match J3a ds with
  |[]=>if d=0 then [] else [d]
  |e::es=>d::e::es
def Dc.trim (a:Dc):Dc:=⟨J3a a.ds,if J3a a.ds=[] then 0 else a.dp,a.lost⟩
theorem Jj9 (ds:List Nat):J3a (ds++[0])=J3a ds:=by
 induction ds with
 |nil=>rfl
 |cons d ds ih=>simp only[List.cons_append,J3a,ih]
theorem Jm8 (h:d≠0):J3a (ds++[d])=ds++[d]:=by
 induction ds with
 |nil=>simp[J3a,h]
 |cons e ds ih=>
  simp only[List.cons_append,J3a,ih];cases ds<;>rfl
theorem Jm7 (h:1<=d):∃es,J3a (d::ds)=d::es:=by
 simp only[J3a];split
 ·rw[if_neg (by omega)];exact⟨[],rfl⟩
 ·exact⟨_,rfl⟩
theorem Jfr (ds:List Nat):∃n,n<=ds.length/\J3a ds=ds.take n:=by
 induction ds with
 |nil=>exact⟨0,Nat.le_refl _,rfl⟩
 |cons d ds ih=>
  obtain⟨n,hn,he⟩:=ih
  simp only[J3a];split
  ·split
   ·exact⟨0,Nat.zero_le _,rfl⟩
   ·exact⟨1,by simp,by simp⟩
  ·rename_i e es heq
   exact⟨n+1,by simp[hn],by rw[List.take_succ_cons,<-he,heq]⟩
theorem Jq0 (h:d∈J3a ds):d∈ds:=by
 obtain⟨n,_,he⟩:=Jfr ds
 rw[he] at h;exact List.mem_of_mem_take h
theorem Jpz (ds:List Nat):(J3a ds).length<=ds.length:=by
 obtain⟨n,hn,he⟩:=Jfr ds
 rw[he,List.length_take];omega
def J7m (k:Nat):Nat->Nat->Nat->Nat×Nat
 |0,n,r=>(n,r)
 |f+1,n,r=>if n/2 ^k≠0 then(n,r) else J7m k f (n*10) (r+1)
def J1u (k:Nat):List Nat->Nat->Nat->Nat×Nat×List Nat
 |[],n,r=>((J7m k (k+1) n r).1,(J7m k (k+1) n r).2,[])
 |d::ds,n,r=>if n/2 ^k≠0 then(n,r,d::ds) else J1u k ds (n*10+d) (r+1)
def J9s (k:Nat):List Nat->Nat->List Nat->Nat×List Nat
 |[],n,out=>(n,out)
 |d::ds,n,out=>J9s k ds (n%2 ^k*10+d) (out++[n/2 ^k])
def Jbi (k:Nat):Nat->Nat->List Nat->Bool->List Nat×Bool
 |0,_,out,lost=>(out,lost)
 |f+1,n,out,lost=>if n=0 then(out,lost) else if out.length<800 then Jbi k f (n%2 ^k*10) (out++[n/2 ^k]) lost else Jbi k f (n%2 ^k*10) out (lost||decide (0<n/2 ^k))
def Jui (a:Dc) (r:Nat) (p:List Nat×Bool):Dc:=Dc.trim ⟨p.1,a.dp - (r - 1),p.2⟩
def Jd9 (k:Nat) (a:Dc) (r:Nat) (p:Nat×List Nat):Dc:=Jui a r (Jbi k (k+2) p.1 p.2 a.lost)
def Dc.right (a:Dc) (k:Nat):Dc:=Jd9 k a (J1u k a.ds 0 0).2.1 (J9s k (J1u k a.ds 0 0).2.2 (J1u k a.ds 0 0).1 [])
def J42 (k:Nat):List Nat->Nat->Nat->List Nat->Bool->Nat×Nat×List Nat×Bool
 |[],w,n,out,lost=>(w,n,out,lost)
 |d::rs,w,n,out,lost=>if w - 1<800 then J42 k rs (w - 1) ((n+d*2 ^k)/10) ((n+d*2 ^k)%10::out) lost else J42 k rs (w - 1) ((n+d*2 ^k)/10) out (lost||decide ((n+d*2 ^k)%10≠0))
def Jb9:Nat->Nat->Nat->List Nat->Bool->List Nat×Bool
 |0,_,_,out,lost=>(out,lost)
 |f+1,w,n,out,lost=>if n=0 then(out,lost) else if w - 1<800 then Jb9 f (w - 1) (n/10) (n%10::out) lost else Jb9 f (w - 1) (n/10) out (lost||decide (n%10≠0))
def Jym (a:Dc) (J1j:Nat) (p:List Nat×Bool):Dc:=Dc.trim ⟨p.1,a.dp+J1j,p.2⟩
def Jht (a:Dc) (J1j:Nat) (p:Nat×Nat×List Nat×Bool):Dc:=Jym a J1j (Jb9 p.1 p.1 p.2.1 p.2.2.1 p.2.2.2)
def J3b (k:Nat):List Nat:=(Nat.toDigits 10 (5 ^k)).map fun c=>c.toNat - 48
def J1r:List Nat->List Nat->Bool
 |_,[]=>false
 |[],_::_=>true
 |d::ds,e::es=>if d=e then J1r ds es else decide (d<e)
def J3n (k:Nat):Nat×List Nat:=if k=0 then(0,[]) else(k+1 - (J3b k).length,J3b k)
def J1j (a:Dc) (k:Nat):Nat:=(J3n k).1 - if J1r a.ds (J3n k).2 then 1 else 0
def Dc.left (a:Dc) (k:Nat):Dc:=Jht a (J1j a k) (J42 k a.ds.reverse (a.ds.length+J1j a k) 0 [] a.lost)
structure J41 (a:Dc):Prop where
 head:∃d es,a.ds=d::es/\1<=d
 ten:∀d∈a.ds,d<10
 len:a.ds.length<=800
def Dc.top (a:Dc):Nat:=a.ds.headD 0
theorem Jmp {cs:List Nat} (hd:∀d∈ds,d<10) (hc:∀d∈cs,d<10) (hl:cs=[]\/∃c e,cs=c++[e]/\1<=e):
 (J1r ds cs=true->J35 ds*10 ^cs.length<J35 cs*10 ^ds.length)/\(J1r ds cs=false->J35 cs*10 ^ds.length<=J35 ds*10 ^cs.length):=by
 induction ds generalizing cs with
 |nil=>
  cases cs with
  |nil=>simp[J1r]
  |cons e es=>
   simp only[J1r,forall_const,List.length_nil];rcases hl with hl|⟨c,x,hl,hx⟩
   ·simp at hl
   ·rw[hl,Jfs];simp;omega
 |cons d ds ih=>
  cases cs with
  |nil=>simp[J1r]
  |cons e es=>
   have hd':∀x∈ds,x<10:=fun x hx=>hd x (by simp[hx])
   have hc':∀x∈es,x<10:=fun x hx=>hc x (by simp[hx])
   have hl':es=[]\/∃c x,es=c++[x]/\1<=x:=by
    rcases hl with hl|⟨c,x,hl,hx⟩
    ·simp at hl
    ·cases c with
     |nil=>simp at hl;exact .inl hl.2
     |cons y c=>simp at hl;exact .inr ⟨c,x,hl.2,hx⟩
   have ih':=ih hd' hc' hl';have hu:=Jhj hd';have hv:=Jhj hc';simp only[J1r];rw[J8p,J8p,List.length_cons,List.length_cons,Nat.pow_succ,Nat.pow_succ];generalize 10 ^ds.length=A at *;generalize 10 ^es.length=B at *;generalize J35 ds=u at *;generalize J35 es=v at *;have e1:(d*A+u)*(B*10)=10*(d*(A*B))+10*(u*B):=by
    rw[Nat.add_mul];congr 1
    ·rw[Nat.mul_assoc,<-Nat.mul_assoc A,<-Nat.mul_assoc,Nat.mul_comm 10]
    ·rw[<-Nat.mul_assoc,Nat.mul_comm 10]
   have e2:(e*B+v)*(A*10)=10*(e*(A*B))+10*(v*A):=by
    rw[Nat.add_mul];congr 1
    ·rw[Nat.mul_assoc,<-Nat.mul_assoc B,Nat.mul_comm B A,<-Nat.mul_assoc,Nat.mul_comm 10]
    ·rw[<-Nat.mul_assoc,Nat.mul_comm 10]
   rw[e1,e2];have hA:0<A:=by omega
   have hB:0<B:=by omega
   have huB:u*B<A*B:=Nat.mul_lt_mul_of_pos_right hu hB;have hvA:v*A<A*B:=by rw[Nat.mul_comm A];exact Nat.mul_lt_mul_of_pos_right hv hA
   by_cases hde:d=e
   ·subst hde
    rw[if_pos rfl];exact⟨fun h=>by have:=ih'.1 h;omega,fun h=>by have:=ih'.2 h;omega⟩
   ·rw[if_neg hde]
    simp only[decide_eq_true_eq,decide_eq_false_iff_not];constructor
    ·intro h
     have:(d+1)*(A*B)<=e*(A*B):=Nat.mul_le_mul_right _ h
     rw[Nat.add_mul] at this;omega
    ·intro h
     have:(e+1)*(A*B)<=d*(A*B):=Nat.mul_le_mul_right _ (by omega)
     rw[Nat.add_mul] at this;omega
def Jhn (k:Nat):Bool:=decide (J35 (J3b k)=5 ^k)&&(J3b k).all (·<10)&&decide (10 ^((J3b k).length - 1)<=5 ^k)&&decide (5 ^k<10 ^(J3b k).length)&&decide (1<=(J3b k).length)&&decide (1<=(J3b k).getLastD 0)&&decide ((J3b k).length<=k+1)
theorem Jq8:∀k,k<=60->Jhn k=true:=by
 intro k hk
 have h:(List.range 61).all Jhn=true:=by decide+kernel
 exact List.all_eq_true.1 h k (by simp;omega)
theorem Jc2 {k:Nat} (h1:1<=k) (h2:k<=60):∃L,(J3b k).length=L/\1<=L/\L<=k/\J35 (J3b k)=5 ^k/\(∀d∈J3b k,d<10)/\10 ^(L - 1)<=5 ^k/\5 ^k<10 ^L/\∃c e,J3b k=c++[e]/\1<=e:=by
 have h:=Jq8 k h2;simp only[Jhn,Bool.and_eq_true,decide_eq_true_eq,List.all_eq_true] at h;obtain⟨⟨⟨⟨⟨⟨a1,a2⟩,a3⟩,a4⟩,a5⟩,a6⟩,a7⟩:=h
 refine⟨_,rfl,a5,?_,a1,a2,a3,a4,?_⟩
 ·by_cases hk:(J3b k).length<=k
  ·exact hk
  ·exfalso
   have e:(J3b k).length - 1=k:=by omega
   rw[e] at a3;exact absurd a3 (Nat.not_le.2 (Nat.pow_lt_pow_left (by decide) (by omega)))
 ·have hne:J3b k≠[]:=by intro h;rw[h] at a5;simp at a5
  refine⟨(J3b k).dropLast,(J3b k).getLast hne,(List.dropLast_concat_getLast hne).symm,?_⟩
  rw[List.getLastD_eq_getLast?,List.getLast?_eq_some_getLast hne] at a6;exact a6
theorem Jrh (k:Nat):(10:Nat) ^k=5 ^k*2 ^k:=by rw[<-Nat.mul_pow]
theorem J55 {a:Dc} (h:J41 a) {k:Nat} (h1:1<=k) (h2:k<=60):
 J35 a.ds*2 ^k<10 ^(a.ds.length+J1j a k)/\10 ^(a.ds.length+J1j a k)<=10*(J35 a.ds*2 ^k)/\J1j a k<=60:=by
 obtain⟨L,hL,hL1,hLk,hv,ht,hlo,hhi,hlast⟩:=Jc2 h1 h2
 obtain⟨d,es,hds,hd⟩:=h.head
 have hD:=Jhj h.ten;have hDlo:10 ^(a.ds.length - 1)<=J35 a.ds:=by rw[hds];simpa using Jw7 hd
 have hn1:1<=a.ds.length:=by rw[hds];simp
 have hl:=Jmp h.ten ht (.inr hlast);rw[hL,hv] at hl;have hc:J3n k=(k+1 - L,J3b k):=by unfold J3n;rw[if_neg (by omega),hL]
 have hdl:J1j a k=(k+1 - L) - if J1r a.ds (J3b k) then 1 else 0:=by unfold J1j;rw[hc]
 have hsplit:=Jrh k;generalize hnd:a.ds.length=n at *;generalize J35 a.ds=D at *;generalize hF:(5:Nat) ^k=F at *;generalize hT:(2:Nat) ^k=T at *;have hFT:F*T=10 ^(k - L)*10 ^L:=by rw[<-Nat.pow_add,<-hsplit];congr 1;omega
 have hLpos:0<10 ^L:=Nat.pow_pos (by decide)
 have hFpos:0<F:=by rw[<-hF];exact Nat.pow_pos (by decide)
 have hTpos:0<T:=by rw[<-hT];exact Nat.pow_pos (by decide)
 cases hb:J1r a.ds (J3b k) with
 |true=>
  rw[hb] at hdl;simp only[if_true] at hdl;have hdl':J1j a k=k - L:=by omega
  rw[hdl'];have h3:=hl.1 hb;refine⟨?_,?_,by omega⟩
  ·
   have h4:D*10 ^L*T<F*10 ^n*T:=Nat.mul_lt_mul_of_pos_right h3 hTpos;have h5:F*10 ^n*T=10 ^(n+(k - L))*10 ^L:=by
    rw[Nat.mul_assoc,Nat.mul_comm (10 ^n),<-Nat.mul_assoc,hFT,Nat.pow_add,Nat.mul_comm (10 ^n),Nat.mul_assoc,Nat.mul_comm (10 ^L),<-Nat.mul_assoc]
   have h6:D*10 ^L*T=D*T*10 ^L:=by rw[Nat.mul_assoc,Nat.mul_comm (10 ^L),<-Nat.mul_assoc]
   rw[h5,h6] at h4;exact Nat.lt_of_mul_lt_mul_right h4
  ·
   have h7:10 ^(k - L)<T:=by
    have:10 ^(k - L)*F<T*F:=by
     have q:10 ^(k - L)*F<10 ^(k - L)*10 ^L:=Nat.mul_lt_mul_of_pos_left hhi (Nat.pow_pos (by decide))
     rw[<-hFT,Nat.mul_comm F] at q;exact q
    exact Nat.lt_of_mul_lt_mul_right this
   have h8:10 ^(n+(k - L))=10*(10 ^(n - 1)*10 ^(k - L)):=by
    rw[<-Nat.pow_add,Nat.mul_comm,<-Nat.pow_succ];congr 1;omega
   rw[h8];exact Nat.mul_le_mul_left _ (Nat.mul_le_mul hDlo (Nat.le_of_lt h7))
 |false=>
  rw[hb] at hdl;have hdl':J1j a k=k+1 - L:=by simpa using hdl
  rw[hdl'];have h3:=hl.2 hb;refine⟨?_,?_,by omega⟩
  ·have h7:T<=10 ^(k+1 - L):=by
    have:T*10 ^(L - 1)<=10 ^(k+1 - L)*10 ^(L - 1):=by
     have e:(10:Nat) ^(k+1 - L)*10 ^(L - 1)=F*T:=by rw[<-Nat.pow_add,hFT,<-Nat.pow_add];congr 1;omega
     rw[e,Nat.mul_comm];exact Nat.mul_le_mul_right _ hlo
    exact Nat.le_of_mul_le_mul_right this (Nat.pow_pos (by decide))
   rw[Nat.pow_add];exact Nat.mul_lt_mul_of_lt_of_le hD h7 (Nat.pow_pos (by decide))
  ·have h4:F*10 ^n*T<=D*10 ^L*T:=Nat.mul_le_mul_right _ h3
   have h5:F*10 ^n*T=10 ^(n+(k - L))*10 ^L:=by
    rw[Nat.mul_assoc,Nat.mul_comm (10 ^n),<-Nat.mul_assoc,hFT,Nat.pow_add,Nat.mul_comm (10 ^n),Nat.mul_assoc,Nat.mul_comm (10 ^L),<-Nat.mul_assoc]
   have h6:D*10 ^L*T=D*T*10 ^L:=by rw[Nat.mul_assoc,Nat.mul_comm (10 ^L),<-Nat.mul_assoc]
   rw[h5,h6] at h4;have h7:=Nat.le_of_mul_le_mul_right h4 hLpos;have h8:10 ^(n+(k+1 - L))=10*10 ^(n+(k - L)):=by rw[Nat.mul_comm,<-Nat.pow_succ];congr 1;omega
   rw[h8];exact Nat.mul_le_mul_left _ h7
end Go.Proofs.YtncbcaabanoeoaaGreatDoor
