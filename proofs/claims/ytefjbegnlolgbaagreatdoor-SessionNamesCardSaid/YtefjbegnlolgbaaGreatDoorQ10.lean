/-
table.made, table.New: a new table holds nothing; (*Table).Len.
-/
import Derived.MapKept
import Derived.StillTail
import Derived.Test.YtefjbegnlolgbaaGreatDoorQ09
set_option linter.unusedVariables false
set_option linter.unusedSimpArgs false
set_option maxRecDepth 100000
set_option maxHeartbeats 8000000
namespace Go.Proofs.YtefjbegnlolgbaaGreatDoor
open Go Go.RowKit
variable {w0 w:World}{l:Hp}{b po:Nat}{T:Tb}{k:Int}
theorem J72 (n:Nat):madeCells (Value.cells (.agg #[.int .i64 0,.string ByteArray.empty,.int .i64 0])) (n*3)=(J0n (List.replicate n Kq)).toArray:=by
 apply Array.ext_getElem?
 intro m
 obtain⟨a,j,hj,rfl⟩:∃a j,j<3/\m=a*3+j:=⟨m/3,m%3,Nat.mod_lt _ (by omega),by omega⟩
 have h2:(J0n (List.replicate n Kq)).toArray[a*3+j]? =(J0n (List.replicate n Kq))[a*3+j]? :=by simp
 rw[h2,J11 _ _ _ hj,List.length_replicate];simp only[madeCells,Value.cells,Array.getElem?_map,Array.getElem?_range];by_cases ha:a<n
 ·have hr:Ja (List.replicate n Kq) a=Kq:=by simp[Ja,List.getD,List.getElem?_replicate,ha]
  rw[if_pos ha,if_pos (by omega),hr]
  have e:(a*3+j)%3=j:=by omega
  obtain rfl|rfl|rfl:j=0\/j=1\/j=2:=by omega
  all_goals simp[e,J2a,Kq]
 ·rw[if_neg ha,if_neg (by omega)];rfl
theorem Jgs:(Tryz.prog.info? 372).map (fun i=>(i.zero,i.size,i.bytes))=some (some (.agg #[.int .i64 0,.string ByteArray.empty,.int .i64 0]),3,32):=by kernel_rfl
theorem Jdf (n:Nat) (w:World) (hB:n<=1099511627776):
 Calls Tryz.prog 44 #[.int .i64 n] w fun e w'=>∃pb,e= .returned (.agg #[.slice (some ⟨pb,0,none⟩) n n,.int .i64 0,.int .i64 0])/\J1 w [] w' [(pb,J1p (List.replicate n Kq))]:=by
 obtain⟨i,hi,hz,hsz,hby⟩:=info_parts Jgs
 have hmk:∀w,(Instr.makeSlice 99 (.int .i64 (n:Int)) (.int .i64 (n:Int))).run Tryz.prog w= .ok (.slice (some ⟨w.heap.size,0,none⟩) n n) (w.alloc (J1p (List.replicate n Kq))):=by
  intro w
  have:=run_make (P:=Tryz.prog) w 99 372 i _ Tryz.underlying99 hi hz .i64 .i64 n n (by omega) (by omega) (by rw[hby];omega) (by omega)
  rw[hsz,Int.toNat_natCast,J72] at this;exact this
 clear hz hsz hby hi;go_enter Tryz.func44,Tryz.ntmps44;go_wp2_with fail;have S1:=((J1.refl (Own.nil w)).alloc (.cells #[.slice (some ⟨w.heap.size+1,0,none⟩) n n,.int .i64 0,.int .i64 0] 101)).alloc (J1p (List.replicate n Kq))
 exact bodyPost_ret (v:=.agg #[.slice (some ⟨w.heap.size+1,0,none⟩) n n,.int .i64 0,.int .i64 0]) (by simp[results,Tryz.results44,go_sem]) rfl
  ⟨w.heap.size+1,rfl,by simpa using S1.less (List.Sublist.cons_cons _ (List.nil_sublist _))⟩
theorem Jjt (w:World):Calls Tryz.prog 26 #[] w fun e w'=>∃b l',e= .returned (.pointer (some ⟨b,0,none⟩))/\Jv l' b [] 0/\J1 w [] w' l':=by
 have hmade:=hid (Jdf 8 w (by omega))
 go_enter Tryz.func26,Tryz.ntmps26;go_wp2_with fail;refine hmade.out.mono ?_;rintro e w1 ⟨pb,rfl,S1⟩;replace S1:=hid S1;go_wp2_with fail;go_ret;refine⟨w1.heap.size,_,rfl,⟨Jao,pb,none,(Jiu Jd).weak (Nat.zero_le _),rfl,rfl⟩,?_⟩
 exact S1.out.alloc _
def J8s (b po:Nat) (pf:Option Nat) (T:Tb) (M:KV) (w:World) (e:Ending) (w':World):Prop:=
 e= .returned (.tuple #[])/\∃pf' T',J1 w (Ks b po pf T) w' (Ks b po pf' T')/\Jn Jd T' M 4/\T'.moving=pf'.isSome/\T'.old=T.old/\(T'.moving=false->2*(T.old.fl+T.old.gr)<T.old.ps.length)/\T'.moving=(T.moving||decide (¬2*(T.old.fl+T.old.gr)<T.old.ps.length))/\
  (T.moving=true->T'=T)/\(T.moving=false->T'.moving=true->T'.fresh.ps=List.replicate T'.fresh.ps.length Kq)
theorem Jhb {w1:World} {pb n:Nat} (hS:J1 w0 l w (Ks b po none T)) (hm:J1 w [] w1 [(pb,J1p (List.replicate n Kq))]):
 J1 w0 l ((((w1.setCell ⟨b,3,none⟩ (.slice (some ⟨pb,0,none⟩) n n)).setCell ⟨b,4,none⟩ (.int .i64 0)).setCell ⟨b,5,none⟩ (.int .i64 0)).setCell ⟨b,6,none⟩ (.bool true))
  (Ks b po (some pb) ⟨T.old,⟨List.replicate n Kq,0,0⟩,true,T.next⟩):=by
 have h1:=(hS.beginning hm).permR (l2:=[(b,J27 po none T),(po,J1p T.old.ps),(pb,J1p (List.replicate n Kq))]) (List.perm_append_comm (l₁:=[_]) (l₂:=[_,_]));have h2:=(((h1.set 3 (.slice (some ⟨pb,0,none⟩) n n)).set 4 (.int .i64 0)).set 5 (.int .i64 0)).set 6 (.bool true)
 have e:((((J05 po none T).setIfInBounds 3 (.slice (some ⟨pb,0,none⟩) n n)).setIfInBounds 4 (.int .i64 0)).setIfInBounds 5 (.int .i64 0)).setIfInBounds 6 (.bool true)=J05 po (some pb) ⟨T.old,⟨List.replicate n Kq,0,0⟩,true,T.next⟩:=by
  simp[J05,J9p]
 rw[e] at h2;exact h2
theorem Ji9 (b po:Nat) (pf:Option Nat) (T:Tb) (M:KV) (w:World) (hok:Jn Jd T M 4) (hmv:T.moving=pf.isSome) (hM:M.length<=68719476736) (ho:Own w (Ks b po pf T)):
 Calls Tryz.prog 277 #[.pointer (some ⟨b,0,none⟩)] w (J8s b po pf T M w):=by
 have hpost:Hid (∀w' pf' T',J1 w (Ks b po pf T) w' (Ks b po pf' T')->Jn Jd T' M 4->T'.moving=pf'.isSome->T'.old=T.old->(T'.moving=false->2*(T.old.fl+T.old.gr)<T.old.ps.length)->T'.moving=(T.moving||decide (¬2*(T.old.fl+T.old.gr)<T.old.ps.length))->
  (T.moving=true->T'=T)->(T.moving=false->T'.moving=true->T'.fresh.ps=List.replicate T'.fresh.ps.length Kq)->J8s b po pf T M w (.returned (.tuple #[])) w'):=fun w' pf' T' h1 h2 h3 h4 h5 h6 h7 h8=>⟨rfl,pf',T',h1,h2,h3,h4,h5,h6,h7,h8⟩
 have hst:=hid (J1.refl ho);obtain⟨c0,c1,c2,c3,c4,c5,c6,c7,fz,hlt⟩:=J03 ho.head
 have hlen:=hok.len;have hlB:=hok.lenB;have hbd:=hok.old.bd hlB;have hbd1:=hbd.1;have hbd2:=hbd.2;cases hm:T.moving with
 |true=>
  rw[hm] at c6;have hok':=hid hok;have hmv':=hid hmv;have hm':=hid hm;clear hok hmv hm ho c0 c1 c2 c3 c4 c5 c7 hbd;go_enter Tryz.func277,Tryz.ntmps277;go_wp2_with fail;go_quiet (fail);go_wp2_with fail;refine bodyPost_ret (results_none rfl _ _ _) rfl ?_;exact hpost.out _ pf T (hst.out.drewN nq) hok'.out hmv'.out rfl (fun h=>by rw[hm'.out] at h;cases h) (by rw[hm'.out];rfl) (fun _=>rfl) (fun h=>by rw[hm'.out] at h;cases h)
 |false=>
  rw[hm] at c6;obtain rfl:pf=none:=by rw[hm] at hmv;cases pf with|none=>rfl|some f=>simp at hmv
  have hs1:IntKind.i64.wrap (T.old.fl+T.old.gr)=T.old.fl+T.old.gr:=IntWalk.i64_in _ (by omega)
  have hs2:IntKind.i64.wrap (2*(T.old.fl+T.old.gr))=2*(T.old.fl+T.old.gr):=IntWalk.i64_in _ (by omega)
  by_cases hfit:2*(T.old.fl+T.old.gr)<T.old.ps.length
  ·have ht:decide (2*(T.old.fl+T.old.gr)<(T.old.ps.length:Int))=true:=by simpa using hfit
   have hok':=hid hok;have hm':=hid hm;have hfit':=hid hfit;clear hok hmv hm ho c3 c4 c5 c7 hbd hfit;go_enter Tryz.func277,Tryz.ntmps277;go_wp2_with fail;go_quiet (fail);go_wp2_with fail;refine bodyPost_ret (results_none rfl _ _ _) rfl ?_;exact hpost.out _ none T (hst.out.drewN nq) hok'.out hm'.out rfl (fun _=>hfit'.out) (by rw[hm'.out];simpa using hfit'.out) (fun _=>rfl) (fun _ h=>by rw[hm'.out] at h;cases h)
  ·have ht:decide (2*(T.old.fl+T.old.gr)<(T.old.ps.length:Int))=false:=by simpa using hfit
   have hflM:T.old.fl<=(M.length:Int):=by
    have h1:=hok.old.fl;have h2:=hok.lens;rw[J5b] at h1;omega
   have hflM':T.old.fl<=68719476736:=by omega
   have hnx:=(hok.idle hm).2;have hok':=hid hok;have hm':=hid hm;have hfit':=hid hfit;have hnx':=hid hnx;have hlen2:(0:Int)<=(T.old.ps.length:Int)/2:=by omega
   clear hok hmv hm ho c3 c4 c5 c7 hbd hfit hnx hflM;have hmade:=hid (fun n w hB=>Jdf n w hB)
   have hmk:∀(w1 w2 w':World) (n pb:Nat),J1 w (Ks b po none T) w1 (Ks b po none T)->J1 w1 [] w2 [(pb,J1p (List.replicate n Kq))]->8<=n->n<=1099511627776->T.old.ps.length<=2*n+1->T.old.fl<((n/4:Nat):Int)->
    w'=(((w2.setCell ⟨b,3,none⟩ (.slice (some ⟨pb,0,none⟩) n n)).setCell ⟨b,4,none⟩ (.int .i64 0)).setCell ⟨b,5,none⟩ (.int .i64 0)).setCell ⟨b,6,none⟩ (.bool true)->
    J8s b po none T M w (.returned (.tuple #[])) w':=by
    intro w1 w2 w' n pb hS hmd h8 hB hL hf hw
    subst hw;have hfin:=hok'.out.grown (room:=n) hm'.out h8 hB hL (by omega)
    have hg:=Jhb hS hmd;rw[hnx'.out] at hg;exact hpost.out _ (some pb) _ hg hfin rfl rfl (fun h=>by cases h) (by rw[hm'.out];simpa using hfit'.out) (fun h=>by rw[hm'.out] at h;cases h) (fun _ _=>by simp)
   replace hmk:=hid hmk;clear hpost
   obtain⟨r0,hr0,hr8,hrL,hrB⟩:∃r0:Nat,(if(8:Int)<(T.old.ps.length:Int)/2 then(T.old.ps.length:Int)/2 else 8)=(r0:Int)/\8<=r0/\T.old.ps.length<=2*r0+1/\r0<=1099511627776:=by
    by_cases h:(8:Int)<(T.old.ps.length:Int)/2
    ·exact⟨T.old.ps.length/2,by rw[if_pos h];omega,by omega,by omega,by omega⟩
    ·exact⟨8,by rw[if_neg h];rfl,by omega,by omega,by omega⟩
   replace hr0:=hid hr0;by_cases h8:(8:Int)<(T.old.ps.length:Int)/2
   ·have hrr:=hr0.out
    rw[if_pos h8] at hrr;go_enter Tryz.func277,Tryz.ntmps277;go_wp2_with fail;go_quiet (fail);clear ht hs1 hs2;go_wp2_with fail;go_loop [2] (fun r=>∃n:Nat,r= .int .i64 n/\8<=n/\T.old.ps.length<=2*n+1/\n<=1099511627776) (fun r=>2199023255552 - (intOf r).toNat)
    case atStart=>exact⟨r0,rfl,hr8,hrL,hrB⟩
    case round=>
     clear hrr hr8 hrL hrB;obtain⟨n,rfl,hn8,hnL,hnB⟩:=hrel
     by_cases hgo:(n:Int)/4<=T.old.fl
     ·go_wp2_with fail
      go_round
      case rel=>exact⟨n*2,by go_num,by omega,by omega,by omega⟩
      case measure=>simp[intOf];omega
     ·have hgo':T.old.fl<(n:Int)/4:=by omega
      have hlast:=hid (show T.old.fl<((n/4:Nat):Int) by omega)
      go_wp2_with fail;refine(hmade.out n _ hnB).mono ?_
      rintro e w2 ⟨pb,rfl,S2⟩;have S3:=J03 (((hst.out.drewN nq).beginning S2).own.right (l:=[_])).head;obtain⟨d0,d1,d2,d3,d4,d5,d6,d7,dz,dlt⟩:=S3
      replace S2:=hid S2;go_wp2_with fail;go_end0
      exact hmk.out _ _ _ n pb (hst.out.drewN nq) S2.out hn8 hnB hnL hlast.out rfl
   ·have hrr:=hr0.out
    rw[if_neg h8] at hrr;obtain rfl:r0=8:=by omega
    clear hr0 hrr;go_enter Tryz.func277,Tryz.ntmps277;go_wp2_with fail;go_quiet (fail);clear ht hs1 hs2;go_wp2_with fail;go_loop [2] (fun r=>∃n:Nat,r= .int .i64 n/\8<=n/\T.old.ps.length<=2*n+1/\n<=1099511627776) (fun r=>2199023255552 - (intOf r).toNat)
    case atStart=>exact⟨8,rfl,hr8,hrL,hrB⟩
    case round=>
     clear hr8 hrL hrB;obtain⟨n,rfl,hn8,hnL,hnB⟩:=hrel
     by_cases hgo:(n:Int)/4<=T.old.fl
     ·go_wp2_with fail
      go_round
      case rel=>exact⟨n*2,by go_num,by omega,by omega,by omega⟩
      case measure=>simp[intOf];omega
     ·have hgo':T.old.fl<(n:Int)/4:=by omega
      have hlast:=hid (show T.old.fl<((n/4:Nat):Int) by omega)
      go_wp2_with fail;refine(hmade.out n _ hnB).mono ?_
      rintro e w2 ⟨pb,rfl,S2⟩;have S3:=J03 (((hst.out.drewN nq).beginning S2).own.right (l:=[_])).head;obtain⟨d0,d1,d2,d3,d4,d5,d6,d7,dz,dlt⟩:=S3
      replace S2:=hid S2;go_wp2_with fail;go_end0
      exact hmk.out _ _ _ n pb (hst.out.drewN nq) S2.out hn8 hnB hnL hlast.out rfl
def J8g (l:Hp) (b:Nat) (M:KV) (key:ByteArray) (n:Int) (w:World) (e:Ending) (w':World):Prop:=
 e= .returned (.bool (look M key).isNone)/\∃l',Jv l' b ((key,n)::Jz M key) 0/\J1 w l w' l'
theorem J8g.mk {l':Hp} {M:KV} {key:ByteArray} {n:Int} {w':World} {is:Bool} (hi:(look M key).isNone=is) (h:Jv l' b ((key,n)::Jz M key) 0) (hs:J1 w l w' l'):
 J8g l b M key n w (.returned (.bool is)) w':=by subst hi;exact⟨rfl,l',h,hs⟩
theorem J6l (ps:List Pl) (i:Nat) (n:Int) (hi:i<ps.length):(J0n ps).toArray.setIfInBounds (i*3+2) (.int .i64 n)=(J0n (ps.set i ⟨(Ja ps i).st,(Ja ps i).key,n⟩)).toArray:=by
 have h:=J4y ps i ⟨(Ja ps i).st,(Ja ps i).key,n⟩ hi;rw[<-h];have hl:=J7w ps;have e0:=J11 ps i 0 (by omega)
 have e1:=J11 ps i 1 (by omega)
 rw[if_pos hi] at e0 e1;congr 1
 simp only[List.setIfInBounds_toArray];congr 1
 apply List.ext_getElem?
 intro m
 simp only[List.getElem?_set,List.length_set];by_cases h1:i*3+1=m
 ·subst h1
  rw[if_pos rfl,if_pos (by omega),e1]
  rfl
 ·rw[if_neg h1]
  by_cases h0:i*3=m
  ·subst h0
   rw[if_pos rfl,if_pos (by omega)]
   simpa[J2a] using e0
  ·rw[if_neg h0]
theorem Jf8 {i:Nat} {pf:Option Nat} {n:Int} (hS:J1 w0 l w (Ks b po pf T)) (hi:i<T.old.ps.length):
 J1 w0 l (w.setCell ⟨po,i*3+2,none⟩ (.int .i64 n)) (Ks b po pf {T with old:=T.old.setN i n}):=by
 have h:=hS.set2 (i*3+2) (.int .i64 n);rw[J6l _ _ _ hi] at h;have e:J27 po pf T=J27 po pf {T with old:=T.old.setN i n}:=by simp[J27,J05,Row.setN]
 rw[e] at h;exact h
theorem Jc4 {f i:Nat} {n:Int} (hS:J1 w0 l w (Ks b po (some f) T)) (hi:i<T.fresh.ps.length):
 J1 w0 l (w.setCell ⟨f,i*3+2,none⟩ (.int .i64 n)) (Ks b po (some f) {T with fresh:=T.fresh.setN i n}):=by
 have h:=J1.set3 (p:=(b,J27 po (some f) T)) (q:=(po,J1p T.old.ps)) hS (i*3+2) (.int .i64 n);rw[J6l _ _ _ hi] at h;have e:J27 po (some f) T=J27 po (some f) {T with fresh:=T.fresh.setN i n}:=by simp[J27,J05,Row.setN]
 rw[e] at h;exact h
theorem Jjv (l:Hp) (b:Nat) (M:KV) (key:ByteArray) (n:Int) (w:World) (hT:Jv l b M 0) (hM:∀k∈M.map Prod.fst,k.size<=maxLen) (hMl:M.length<=68719476736) (hk:key.size<=maxLen) (ho:Own w l):
 Calls Tryz.prog 221 #[.pointer (some ⟨b,0,none⟩),.string key,.int .i64 n] w (J8g l b M key n w):=by
 have hstep:=hid (J7f l b M w hT hM ho);clear hT hM ho;go_enter Tryz.func221,Tryz.ntmps221;go_wp2_with fail;refine hstep.out.mono ?_;rintro e w1 ⟨rfl,l1,hT1,S1⟩;obtain⟨T,po,pf,hok,hmv,rfl⟩:=hT1
 have hat:=hid (Jeh b po pf T M 4 key w1 hok hmv hk S1.own);replace S1:=hid S1;replace hmv:=hid hmv;go_wp2_with fail;refine hat.out.mono ?_;rintro e w2 ⟨⟨nd,rfl⟩,v,i,rfl,hv⟩;cases hv with
 |fresh i hm hi h1 hke=>
  have hl:=hok.memFresh hi h1;have hfin:=hok.setFresh (n:=n) hm hi h1;rw[hke] at hl hfin;have hpf:∃f,pf=some f:=by have:=hmv.out;rw[hm] at this;exact Option.isSome_iff_exists.1 this.symm
  obtain⟨f,rfl⟩:=hpf
  have c3:=(J03 S1.out.own.head).c3;have hpl:Kv w1 f T.fresh.ps:=S1.out.own.tail.tail.head;have p2:=hpl.n hi;have g2:w1.frozen? ⟨f,i*3+2,none⟩=false:=J6 hpl _;have hB:=(hok.busy hm).2.2.1;simp only[J9p] at c3;have hset:=hid (Jc4 (n:=n) (S1.out.drewN nd) hi);replace hl:=hid hl;replace hfin:=hid hfin;clear hat hm h1 hke hpl hok;go_wp2_with fail;go_ret;exact .mk (by rw[hl.out];rfl) ⟨_,po,some f,hfin.out.weak (Nat.zero_le _),hmv.out,rfl⟩ hset.out
 |old i hi h1 hke=>
  have hl:=hok.memOld hi h1;have hfin:=hok.setOld (n:=n) hi h1;rw[hke] at hl hfin;have c0:=(J03 S1.out.own.head).c0;have hpl:Kv w1 po T.old.ps:=S1.out.own.tail.head;have p2:=hpl.n hi;have g2:w1.frozen? ⟨po,i*3+2,none⟩=false:=J6 hpl _;have hB:=hok.lenB;have hset:=hid (Jf8 (n:=n) (S1.out.drewN nd) hi);replace hl:=hid hl;replace hfin:=hid hfin;clear hat h1 hke hpl hok;go_wp2_with fail;go_ret;exact .mk (by rw[hl.out];rfl) ⟨_,po,pf,hfin.out.weak (Nat.zero_le _),hmv.out,rfl⟩ hset.out
 |none hno hnf=>
  have hl:=hok.noneAt hno hnf;have hw:=J4d hl;have hnk:=J5g.1 hl;have hg:=hid (Ji9 b po pf T M (w1.drewN nd) hok hmv.out hMl (S1.out.drewN nd).own);have hpost:Hid (∀w' l',Jv l' b ((key,n)::M) 0->J1 w l w' l'->J8g l b M key n w (.returned (.bool true)) w'):=fun w' l' h1 h2=>.mk (by rw[hl];rfl) (by rw[hw];exact h1) h2
  replace hl:=hid hl;replace hnk:=hid hnk;clear hat hw;have hok':=hid hok;clear hok;replace hno:=hid hno;replace hnf:=hid hnf;go_wp2_with fail;refine hg.out.mono ?_;rintro e w3 ⟨rfl,pf',T',S3,hok3,hmv3,hold,hfit,hmo,hsame,hnew⟩;have S4:=(S1.out.drewN nd).trans S3;have c6:=(J03 S4.own.head).c6;clear hg hmo;replace S4:=hid S4;cases hm:T'.moving with
  |true=>
   rw[hm] at c6;obtain⟨f,rfl⟩:∃f,pf'=some f:=by rw[hm] at hmv3;exact Option.isSome_iff_exists.1 hmv3.symm
   have hfree:J8n T'.fresh.ps key:=by
    intro i p hp hs hke
    have:=hok3.memFresh (List.getElem?_eq_some_iff.1 hp).1 (by rw[J2w hp];exact hs)
    rw[J2w hp,hke,hl.out] at this;cases this
   have hB:=(hok3.busy hm).2.2.1;have h8:=(hok3.busy hm).2.1;have hfd:=J34 Jd T'.fresh.ps key hok3.fresh.ok (by omega)
   cases hr:J08 Jd T'.fresh.ps key with
   |mk r1 r2=>
   rw[hr] at hfd;cases r2 with
   |true=>
    obtain⟨i',_,hi',hs',hk'⟩:=hfd.yes rfl
    exact absurd hk' (hfree i' _ (J3z hi') hs')
   |false=>
   obtain⟨i',hi',hpp⟩:=hfd.place rfl (hok3.room hm)
   simp only at hi'
   subst hi';have hput:=hid (Jar b po f i' T' key n w3 S4.out (r:=[]) (by simp) hk hB hok3.fresh hr hpp)
   have hfin:=hid (hok3.putFresh (n:=n) hm hnk.out hpp);have hmt:=hid hm;clear hok3 hm hB h8 hfd hr hpp hfree hmv3 hold hfit hsame hnew S3;go_wp2_with fail;refine hput.out.mono ?_;rintro e w5 ⟨rfl,S5⟩;replace S5:=hid S5;go_wp2_with fail;go_ret;exact hpost.out _ _ ⟨_,po,some f,hfin.out,hmt.out,rfl⟩ (by simpa using S5.out)
  |false=>
   rw[hm] at c6;obtain rfl:pf'=none:=by rw[hm] at hmv3;cases pf' with|none=>rfl|some f=>cases hmv3
   have hfree:J8n T'.old.ps key:=by
    intro i p hp hs hke
    have:=hok3.memOld (List.getElem?_eq_some_iff.1 hp).1 (by rw[J2w hp];exact hs)
    rw[J2w hp,hke,hl.out] at this;cases this
   have hB:=hok3.lenB;have h8:=hok3.len;have hfd:=J34 Jd T'.old.ps key hok3.old.ok (by omega)
   cases hr:J08 Jd T'.old.ps key with
   |mk r1 r2=>
   rw[hr] at hfd;cases r2 with
   |true=>
    obtain⟨i',_,hi',hs',hk'⟩:=hfd.yes rfl
    exact absurd hk' (hfree i' _ (J3z hi') hs')
   |false=>
   obtain⟨i',hi',hpp⟩:=hfd.place rfl (hok3.roomOld (by rw[hold];exact hfit hm))
   simp only at hi'
   subst hi';have hput:=hid (Jl2 b po i' none T' key n w3 S4.out (r:=[]) (by simp) hk hB hok3.old hr hpp)
   have hfin:=hid (hok3.putOld (n:=n) (c':=0) hm hnk.out hpp);have hmt:=hid hm;clear hok3 hm hB h8 hfd hr hpp hfree hmv3 hold hfit hsame hnew S3;go_wp2_with fail;refine hput.out.mono ?_;rintro e w5 ⟨rfl,S5⟩;replace S5:=hid S5;go_wp2_with fail;go_ret;exact hpost.out _ _ ⟨_,po,none,hfin.out,hmt.out,rfl⟩ (by simpa using S5.out)
section
variable {P:Program} {ops:Array Oper} {md:Region.Mode} {C:World->Prop}
def Jd7 (P:Program) (md:Region.Mode) (ops:Array Oper) (C:World->Prop) (n:Nat) (L:Array Bool->Act->Prop):Nat->Array Bool->Act->Prop
 |0,done,a=>L done a
 |f+1,done,a=>Region.ready md ops done≠[]/\∀i∈Region.ready md ops done,i<n/\qOp P ops C i (Jd7 P md ops C n L f (done.setIfInBounds i true)) a
theorem Jgf {n g:Nat} {L:Array Bool->Act->Prop} {Q:Exit->Act->World->Prop} (hL:∀done a,L done a->∀w,C w->wpAny P md ops Q g done a w):
 ∀(f:Nat) (done:Array Bool) (a:Act) (w:World),C w->Jd7 P md ops C n L f done a->wpAny P md ops Q (f+g) done a w:=by
 intro f
 induction f with
 |zero=>intro done a w hw h;rw[Nat.zero_add];exact hL done a h w hw
 |succ f ih=>
  intro done a w hw h
  rw[show f+1+g=(f+g)+1 by omega]
  exact⟨fun h0=>absurd h0 h.1,fun i hi=>wpOp_of_qOp hw (fun a' w' hw' h'=>ih _ a' w' hw' h') (h.2 i hi).2⟩
theorem Jd8 {n i:Nat} {o:Oper} {v:Value} {L:Array Bool->Act->Prop} (ho:ops[i]? =some o) (hsel:∀(j:Nat) (o:Oper) cs b,ops[j]? =some o->o.op≠ .select cs b)
 (hs:Region.sinkB md ops n=true) (hc:Region.chainB md ops n=true) (hn:n<ops.size) (hin:i<n) (hL:∀done a,L done a->∀j∈Region.ready md ops done,n<=j)
 (f:Nat):∀(done:Array Bool) (a:Act),HeadInv md ops n done->
  (∀j oj,ops[j]? =some oj->j≠i->done.getD j true=false->(∀e∈oj.after,Region.binds md e=true->e.on≠i)->o.apart ops oj=true)->
  i∈Region.ready md ops done->YieldsIn P ops C o v a->Jd7 P md ops C n L f (done.setIfInBounds i true) (a.put o.dst v)->Jd7 P md ops C n L (f+1) done a:=by
 induction f with
 |zero=>
  intro done a inv _ hr hy H
  have hun:=(mem_ready.1 hr).1;refine⟨List.ne_nil_of_mem hr,fun j hj=>?_⟩
  have hjn:j<n:=Nat.lt_of_not_le fun h=>tail_waits hs hc hn inv _ i rfl hin hun j h hj
  by_cases e:j=i
  ·subst e;exact⟨hjn,hy.qOp ho H⟩
  ·exact absurd (hL _ _ H j (ready_mono hj e)) (by omega)
 |succ f ih=>
  intro done a inv hfree hr hy H
  have hun:=(mem_ready.1 hr).1;refine⟨List.ne_nil_of_mem hr,fun j hj=>?_⟩
  have hjn:j<n:=Nat.lt_of_not_le fun h=>tail_waits hs hc hn inv _ i rfl hin hun j h hj
  refine⟨hjn,?_⟩
  by_cases e:j=i
  ·subst e;exact hy.qOp ho H
  ·obtain⟨hjun,oj,hoj,hall⟩:=mem_ready.1 hj
   have hnot:∀e∈oj.after,Region.binds md e=true->e.on≠i:=fun e he hb heq=>by
    have:=hall e he hb
    rw[heq,getD_both hun] at this;cases this
   have h2:=qOp_put hoj (hfree j oj hoj e hjun hnot) (fun cs b=>hsel i o cs b ho) (fun cs b=>hsel j oj cs b hoj) hy (H.2 j (ready_mono hj e)).2
   refine qOp_mono (fun a' h3=>ih (done.setIfInBounds j true) a' (inv.set hj hjn) (fun k ok hk hki hkun hno=>hfree k ok hk hki ?_ hno) (ready_mono hr (Ne.symm e)) h3.1 ?_) h2
   ·by_cases hjk:j=k
    ·subst hjk;exact hjun
    ·rwa[getD_set_ne true hjk] at hkun
   ·rw[Array.setIfInBounds_comm _ _ e]
    exact h3.2
theorem Jge {n g:Nat} {T:Act->Prop} (hsel:Region.noSelect ops=true) (hs:Region.sinkB md ops n=true) (hc:Region.chainB md ops n=true) (hn:n<ops.size)
 (l:List Oper):∀(k:Nat) (done:Array Bool) (a:Act),(∀j,j<l.length->l[j]? =ops[k+j]?)->k+l.length=n->HeadInv md ops n done->
 Region.lexHead md ops g l.length k done=true->wpQuiet P ops C T l a->Jd7 P md ops C n (fun done' a'=>Region.seqB md ops g n done'=true/\T a') l.length done a:=by
 induction l with
 |nil=>
  intro k done a _ hk _ hB h
  have:k=n:=by simpa using hk
  subst this;exact⟨by simpa[Region.lexHead] using hB,h⟩
 |cons o l ih=>
  intro k done a hl hk inv hB h
  have h0:ops[k]? =some o:=by simpa using (hl 0 (by simp)).symm
  simp only[List.length_cons,Region.lexHead,Bool.and_eq_true] at hB;simp only[List.length_cons] at hk;have hr:k∈Region.ready md ops done:=by simpa using hB.1.1
  obtain⟨v,hy,hK⟩:=yieldsIn_of_qOp (C:=C) (K:=wpQuiet P ops C T l) h0 (by unfold qOp;simp only[h0];exact h)
  exact Jd8 h0 (Region.noSelect_spec hsel) hs hc hn (by omega) (fun done' a' hL=>seqB_ready hL.1) l.length done a inv (Region.free_spec h0 hB.1.2) hr hy
   (ih (k+1) _ _ (fun j hj=>by have:=hl (j+1) (by simpa using hj);simpa[Nat.add_assoc,Nat.add_comm 1 j] using this) (by omega) (inv.set hr (by omega)) hB.2 hK)
end
theorem Jx {P:Program} {id:Nat} {Q:Exit->Act->World->Prop} {a:Act} {L:Hp} {ops:List Oper} (n:Nat) (hS:J1 w0 l w L) (hm:P.follows .mixedOrders=true) (hB:Region.lexTailB .any ops.toArray n=true)
 (h:Nonempty (InW w0 l L)->wpQuiet P ops.toArray (fun w'=>∃p:InW w0 l L,w'=p.w) (fun a'=>∀w',(∃p:InW w0 l L,w'=p.w)->wpList P ops.toArray Q (ops.drop n) a' w') (ops.take n) a):(Code.region id ops.toArray true).wp P Q a w:=by
  simp only[Region.lexTailB,Bool.and_eq_true,decide_eq_true_eq] at hB;obtain⟨⟨⟨⟨hsel,hn⟩,hs⟩,hc⟩,hlex⟩:=hB
  have hn':n<ops.length:=by simpa using hn
  have htl:(ops.take n).length=n:=by simp;omega
  have hdl:(ops.drop n).length=ops.toArray.size - n:=by simp
  have inv0:HeadInv .any ops.toArray n (Array.replicate ops.toArray.size false):=
   ⟨by simp,fun j oj _ hl=>(by rw[getD_replicate_false] at hl;cases hl),fun t _ ht=>getD_in (by simpa using ht) (getD_replicate_false _ _)⟩
  have H:=Jge (md:=.any) (g:=ops.toArray.size - n) hsel hs hc hn (ops.take n) 0 _ a (fun j hj=>by
   rw[htl] at hj;simp[hj]) (by omega) inv0 (by rw[htl];exact hlex) (h ⟨⟨w,hS⟩⟩)
  refine wp_region_any hm ?_
  have R:=Jgf (Q:=Q) (g:=ops.toArray.size - n) (fun done a' hL w' hw'=>by
   have:=wpAny_of_seq (md:=.any) (Q':=Q) (ops.drop n) n done a' w' (fun j=>by simp[List.getElem?_drop]) (by rw[hdl];exact hL.1) (hL.2 w' hw')
   rwa[hdl] at this) _ _ _ w.drew ⟨⟨w.drew,hS.drew⟩,rfl⟩ H
  rw[htl,show n+(ops.toArray.size - n)=ops.toArray.size by omega] at R
  exact R
theorem J17 {P:Program} {ops os:Array Oper} {C:World->Prop} {Q:Exit->Act->World->Prop} {a:Act} {L:Hp} {rest:List Oper} (h:∀w',J1 w0 l w' L->wpList P os Q rest a w'):
 wpQuiet P ops C (fun a'=>∀w',(∃p:InW w0 l L,w'=p.w)->wpList P os Q rest a' w') [] a:=wpQuiet_nil (fun _ ⟨p,hp⟩=>by rw[hp];exact h p.w p.h)
abbrev IL (α:Type):=List (Int×α)
def J0j {α:Type} (m:IL α) (k:Int):Option α:=(m.find? (fun p=>decide (p.1=k))).map Prod.snd
def J4s {α:Type} (m:IL α) (k:Int):IL α:=m.filter (fun p=>decide (p.1≠k))
def Jdi {α:Type} (m:IL α) (k:Int) (v:α):IL α:=m.map (fun p=>if p.1=k then(k,v) else p)
def J9h {α:Type} (m:IL α) (k:Int) (v:α):IL α:=if(J0j m k).isSome then Jdi m k v else m++[(k,v)]
def K8 (o:Obj) (m:IL Value):Prop:=∃es clock,o= .map es clock/\es.toList.map (fun e=>(e.key,e.val))=m.map (fun p=>(Value.int .i64 p.1,p.2))/\Go.MapKept.Stamped es clock
theorem K8.empty:K8 (.map #[] 0) []:=⟨_,_,rfl,rfl,Go.MapKept.stamped_empty 0⟩
theorem J6e (k:Int):∀(es:List MapEntry) (m:IL Value) (i:Nat),es.map (fun e=>(e.key,e.val))=m.map (fun p=>(Value.int .i64 p.1,p.2))->
 Instr.findNow (.int .i64) (.int .i64 k) es i=some ((m.findIdx? (fun p=>decide (p.1=k))).bind fun j=>(m[j]?).map fun p=>(i+j,p.2))
 |[],m,i,h=>by
  cases m with
  |nil=>rfl
  |cons p m=>simp at h
 |e::es,m,i,h=>by
  cases m with
  |nil=>simp at h
  |cons p m=>
   simp only[List.map_cons,List.cons.injEq,Prod.mk.injEq] at h;obtain⟨⟨h1,h2⟩,h3⟩:=h
   have ih:=J6e k es m (i+1) h3;simp only[Instr.findNow,h1,Instr.sameNow,if_true];by_cases hk:k=p.1
   ·subst hk
    simp[List.findIdx?_cons,h2]
   ·have hk':¬p.1=k:=fun e=>hk e.symm
    rw[beq_eq_false_iff_ne.2 hk];simp only[ih,List.findIdx?_cons,decide_eq_false hk',Option.bind_map];simp only[Bool.false_eq_true,if_false,Option.bind_map,Function.comp_def,List.getElem?_cons_succ];congr 1
    congr 1
    funext j
    congr 1
    funext q
    congr 1
    omega
theorem J2h {m:IL Value} {k:Int}:((m.findIdx? (fun p=>decide (p.1=k))).bind fun j=>(m[j]?).map fun p=>p.2)=J0j m k:=by
 induction m with
 |nil=>rfl
 |cons p m ih=>
  simp only[List.findIdx?_cons,J0j,List.find?_cons] at ih⊢;by_cases hk:p.1=k
  ·simp[hk]
  ·simp[hk,Option.bind_map,Function.comp_def] at ih⊢
   exact ih
section
variable {P:Program} {t k e:TypeId}
theorem J1a (hk:P.underlying k=some (.int .i64)) {es:Array MapEntry} {m:IL Value} (h:es.toList.map (fun e=>(e.key,e.val))=m.map (fun p=>(Value.int .i64 p.1,p.2))) (key:Int) (w:World):
 (Instr.findKey k (.int .i64 key) es.toList).run P w= .ok ((m.findIdx? (fun p=>decide (p.1=key))).bind fun j=>(m[j]?).map fun p=>(j,p.2)) w:=by
 unfold Instr.findKey;have:=J6e key es.toList m 0 h
 simp only[Nat.zero_add] at this;simp[run_underlying hk,this]
theorem J89 (hk:P.underlying k=some (.int .i64)) (b:Bool) (n:Nat) (key:Int) (w:World):(Instr.checkKey b (n+1) k (.int .i64 key)).run P w= .ok () w:=by
 simp[Instr.checkKey,run_underlying hk]
theorem J0w (hk:P.underlying k=some (.int .i64)) (b:Bool) (key:Int) (w:World):(Instr.checkKey b 10000 k (.int .i64 key)).run P w= .ok () w:=J89 hk b 9999 key w
theorem Jmv (ht:P.underlying t=some (.map k e)) (hk:P.underlying k=some (.int .i64)) {z:Value} (hz:∀w,(zeroValue e).run P w= .ok z w) {w:World} {r:Nat} {o:Obj} {m:IL Value}
 (hr:w.heap[r]? =some o) (hm:K8 o m) (key:Int):
 (Instr.lookup t (.map (some r)) (.int .i64 key) true).run P w= .ok (.tuple #[(J0j m key).getD z,.bool (J0j m key).isSome]) w:=by
 obtain⟨es,clock,rfl,h,hst⟩:=hm
 have hg:(Sem.getObj r Sem.pure).run P w= .ok (.map es clock) w:=by simp[Sem.run,hr]
 have hl:=@J2h m key;unfold Instr.lookup;simp only[Sem.run_bind,run_underlying ht,Result.andThen_ok,Sem.run_pure];rw[show(getObj r:Sem Obj)=Sem.getObj r Sem.pure from rfl,hg];simp only[Sem.run_bind,Result.andThen_ok,Sem.run_pure,J0w hk,J1a hk h];cases hf:(m.findIdx? (fun p=>decide (p.1=key))) with
 |none=>
  rw[hf] at hl;simp only[Option.bind_none] at hl⊢;simp[hz,<-hl]
 |some j=>
  rw[hf] at hl;simp only[Option.bind_some] at hl⊢;have hj:j<m.length:=(List.findIdx?_eq_some_iff_getElem.1 hf).1;rw[List.getElem?_eq_getElem hj] at hl⊢;simp only[Option.map_some] at hl⊢;simp[<-hl]
theorem J23 (ht:P.underlying t=some (.map k e)) (hk:P.underlying k=some (.int .i64)) {z:Value} (hz:∀w,(zeroValue e).run P w= .ok z w) {w:World} {r:Nat} {o:Obj} {m:IL Value}
 (hr:w.heap[r]? =some o) (hm:K8 o m) (key:Int):
 (Instr.lookup t (.map (some r)) (.int .i64 key) false).run P w= .ok ((J0j m key).getD z) w:=by
 obtain⟨es,clock,rfl,h,hst⟩:=hm
 have hg:(Sem.getObj r Sem.pure).run P w= .ok (.map es clock) w:=by simp[Sem.run,hr]
 have hl:=@J2h m key;unfold Instr.lookup;simp only[Sem.run_bind,run_underlying ht,Result.andThen_ok,Sem.run_pure];rw[show(getObj r:Sem Obj)=Sem.getObj r Sem.pure from rfl,hg];simp only[Sem.run_bind,Result.andThen_ok,Sem.run_pure,J0w hk,J1a hk h];cases hf:(m.findIdx? (fun p=>decide (p.1=key))) with
 |none=>
  rw[hf] at hl;simp only[Option.bind_none] at hl⊢;simp[hz,<-hl]
 |some j=>
  rw[hf] at hl;simp only[Option.bind_some] at hl⊢;have hj:j<m.length:=(List.findIdx?_eq_some_iff_getElem.1 hf).1;rw[List.getElem?_eq_getElem hj] at hl⊢;simp only[Option.map_some] at hl⊢;simp[<-hl]
theorem J9o (n:Nat) (a:Int):Instr.sameBits (n+1) (.int .i64 a) (.int .i64 a)=true:=by
 simp[Instr.sameBits]
theorem Ja3 (a:Int):Instr.sameBits 10000 (.int .i64 a) (.int .i64 a)=true:=J9o 9999 a
theorem J5q {m:IL Value} {key:Int} (h:m.findIdx? (fun p=>decide (p.1=key))=none):J0j m key=none:=by
 rw[<-J2h,h];rfl
theorem J5r {m:IL Value} {key:Int} {j:Nat} (h:m.findIdx? (fun p=>decide (p.1=key))=some j):∃hj:j<m.length,J0j m key=some (m[j]).2/\(m[j]).1=key:=by
 obtain⟨hj,h1,_⟩:=List.findIdx?_eq_some_iff_getElem.1 h
 exact⟨hj,by rw[<-J2h,h];simp[List.getElem?_eq_getElem hj],by simpa using h1⟩
theorem Jit {α:Type} {m:IL α} {key:Int} {v:α} {j:Nat} (hn:(m.map Prod.fst).Nodup) (hj:j<m.length) (hk:(m[j]).1=key):Jdi m key v=m.set j (key,v):=by
 apply List.ext_getElem?
 intro i
 simp only[Jdi,List.getElem?_map,List.getElem?_set];by_cases hij:j=i
 ·subst hij
  simp[hj,hk]
 ·rw[if_neg hij]
  cases hi:m[i]? with
  |none=>rfl
  |some p=>
   have hil:=(List.getElem?_eq_some_iff.1 hi).1
   have:p.1≠key:=by
    intro e
    have h1:(m.map Prod.fst)[i]? =(m.map Prod.fst)[j]? :=by simp[hi,e,List.getElem?_eq_getElem hj,hk]
    exact hij ((List.getElem?_inj (by simpa using hil) hn).1 h1).symm
   simp[this]
theorem Jir {α:Type} {m:IL α} {key:Int} {j:Nat} (hn:(m.map Prod.fst).Nodup) (hj:j<m.length) (hk:(m[j]).1=key):J4s m key=m.eraseIdx j:=by
 induction m generalizing j with
 |nil=>simp at hj
 |cons p m ih=>
  simp only[List.map_cons,List.nodup_cons] at hn;cases j with
  |zero=>
   simp only[List.getElem_cons_zero] at hk;simp only[J4s,List.eraseIdx_cons_zero,List.filter_cons,hk];simp only[ne_eq,not_true,decide_false,Bool.false_eq_true,if_false];rw[List.filter_eq_self];intro q hq
   have:q.1≠key:=fun e=>hn.1 (List.mem_map.2 ⟨q,hq,e.trans hk.symm⟩)
   simpa using this
  |succ j=>
   simp only[List.getElem_cons_succ,List.length_cons] at hk hj;have hp:p.1≠key:=fun e=>hn.1 (List.mem_map.2 ⟨_,List.getElem_mem (by omega:j<m.length),hk.trans e.symm⟩)
   simp only[J4s,List.eraseIdx_cons_succ,List.filter_cons];simp only[ne_eq,hp,not_false_eq_true,decide_true,if_true];congr 1
   exact ih hn.2 (by omega) hk
theorem Jes {α:Type} {m:IL α} {key:Int} (h:J0j m key=none):J4s m key=m:=by
 rw[J4s,List.filter_eq_self];intro p hp
 simp only[J0j,Option.map_eq_none_iff,List.find?_eq_none] at h;have:=h p hp
 simpa using this
theorem J9n (ht:P.underlying t=some (.map k e)) (hk:P.underlying k=some (.int .i64)) {w:World} {r:Nat} {o:Obj} {m:IL Value}
 (hr:w.heap[r]? =some o) (hm:K8 o m) (hn:(m.map Prod.fst).Nodup) (key:Int) (v:Value):
 ∃o',(Instr.mapUpdate t (.map (some r)) (.int .i64 key) v).run P w= .ok () {w with heap:=w.heap.setIfInBounds r o'}/\K8 o' (J9h m key v):=by
 obtain⟨es,clock,rfl,h,hst⟩:=hm
 have hg:(Sem.getObj r Sem.pure).run P w= .ok (.map es clock) w:=by simp[Sem.run,hr]
 have hlen:es.size=m.length:=by have:=congrArg List.length h;simpa using this
 have hset:∀o',(setObj r o':Sem Unit).run P w= .ok () {w with heap:=w.heap.setIfInBounds r o'}:=by
  intro o'
  show(Sem.setObj r o' (Sem.pure ())).run P w=_
  simp[Sem.run,hr]
 cases hf:(m.findIdx? (fun p=>decide (p.1=key))) with
 |none=>
  refine⟨.map (es.push {key:=.int .i64 key,val:=v,born:=clock}) (clock+1),?_,_,_,rfl,?_,Go.MapKept.stamped_push hst (fun x hx e=>?_)⟩
  ·unfold Instr.mapUpdate
   simp only[Sem.run_bind,run_underlying ht,Result.andThen_ok,Sem.run_pure];rw[show(getObj r:Sem Obj)=Sem.getObj r Sem.pure from rfl,hg];simp only[Sem.run_bind,Result.andThen_ok,Sem.run_pure,J0w hk,J1a hk h,hf,Option.bind_none];exact hset _
  ·rw[J9h,J5q hf]
   simp[h]
  ·have hx2:(x.key,x.val)∈m.map (fun p=>(Value.int .i64 p.1,p.2)):=h▸List.mem_map.2 ⟨x,hx,rfl⟩
   obtain⟨p,hp,hpe⟩:=List.mem_map.1 hx2
   simp only[Prod.mk.injEq] at hpe;rw[e] at hpe;have hpk:p.1=key:=by injection hpe.1
   have:=List.findIdx?_eq_none_iff.1 hf p hp
   simp[hpk] at this
 |some j=>
  obtain⟨hj,hl,hkj⟩:=J5r hf
  have hje:j<es.size:=by omega
  have hkey:(es[j]).key= .int .i64 key/\(es[j]).val=(m[j]).2:=by
   have h1:(es.toList.map (fun e=>(e.key,e.val)))[j]? =(m.map (fun p=>(Value.int .i64 p.1,p.2)))[j]? :=by rw[h]
   simp only[List.getElem?_map,Array.getElem?_toList,Array.getElem?_eq_getElem hje,List.getElem?_eq_getElem hj,Option.map_some,Option.some.injEq,Prod.mk.injEq] at h1;exact⟨h1.1.trans (by rw[hkj]),h1.2⟩
  refine⟨.map (es.modify j fun e=>{e with key:=.int .i64 key,val:=v}) clock,?_,_,_,rfl,?_,Go.MapKept.stamped_modify hst j _ (fun _ _=>rfl) (fun e _ he=>by rw[Array.getElem?_eq_getElem hje] at he;cases he;exact hkey.1.symm)⟩
  ·unfold Instr.mapUpdate
   simp only[Sem.run_bind,run_underlying ht,Result.andThen_ok,Sem.run_pure];rw[show(getObj r:Sem Obj)=Sem.getObj r Sem.pure from rfl,hg];simp only[Sem.run_bind,Result.andThen_ok,Sem.run_pure,J0w hk,J1a hk h,hf,Option.bind_some,List.getElem?_eq_getElem hj,Option.map_some];rw[Array.getElem?_eq_getElem hje];simp only[Option.map_some,Option.getD_some,hkey.1,Instr.keyThatStays,Ja3,if_true,Sem.run_bind,Sem.run_pure,Result.andThen_ok];exact hset _
  ·rw[J9h,hl]
   simp only[Option.isSome_some,if_true,Jit hn hj hkj];apply List.ext_getElem?
   intro i
   have h1:(es.toList.map (fun e=>(e.key,e.val)))[i]? =(m.map (fun p=>(Value.int .i64 p.1,p.2)))[i]? :=by rw[h]
   simp only[List.getElem?_map,Array.getElem?_toList,List.getElem?_set,Array.getElem?_modify] at h1⊢;by_cases hij:j=i
   ·subst hij
    simp[hj,hje]
   ·simp only[if_neg hij]
    exact h1
theorem Jdu (ht:P.underlying t=some (.map k e)) (hk:P.underlying k=some (.int .i64)) {w:World} {r:Nat} {o:Obj} {m:IL Value} (ty:TypeId)
 (hr:w.heap[r]? =some o) (hm:K8 o m) (hn:(m.map Prod.fst).Nodup) (key:Int) (t2:TypeId):
 ∃o',(Builtin.delete_ #[t,t2] ty #[.map (some r),.int .i64 key]).run P w= .ok (.tuple #[]) {w with heap:=w.heap.setIfInBounds r o'}/\K8 o' (J4s m key):=by
 obtain⟨es,clock,rfl,h,hst⟩:=hm
 have hg:(Sem.getObj r Sem.pure).run P w= .ok (.map es clock) w:=by simp[Sem.run,hr]
 have hlen:es.size=m.length:=by have:=congrArg List.length h;simpa using this
 have hset:∀o',(setObj r o':Sem Unit).run P w= .ok () {w with heap:=w.heap.setIfInBounds r o'}:=by
  intro o'
  show(Sem.setObj r o' (Sem.pure ())).run P w=_
  simp[Sem.run,hr]
 cases hf:(m.findIdx? (fun p=>decide (p.1=key))) with
 |none=>
  refine⟨.map es clock,?_,_,_,rfl,?_,hst⟩
  ·unfold Builtin.delete_
   simp only[List.getElem?_toArray,List.getElem?_cons_zero,List.getElem?_cons_succ];simp only[Sem.run_bind,run_underlying ht,Result.andThen_ok,Sem.run_pure];rw[show(getObj r:Sem Obj)=Sem.getObj r Sem.pure from rfl,hg];simp only[Sem.run_bind,Result.andThen_ok,Sem.run_pure,J0w hk,J1a hk h,hf,Option.bind_none,hset]
  ·rw[Jes (J5q hf)]
   exact h
 |some j=>
  obtain⟨hj,hl,hkj⟩:=J5r hf
  have hje:j<es.size:=by omega
  refine⟨.map (es.eraseIdxIfInBounds j) clock,?_,_,_,rfl,?_,Go.MapKept.stamped_erase hst j⟩
  ·unfold Builtin.delete_
   simp only[List.getElem?_toArray,List.getElem?_cons_zero,List.getElem?_cons_succ];simp only[Sem.run_bind,run_underlying ht,Result.andThen_ok,Sem.run_pure];rw[show(getObj r:Sem Obj)=Sem.getObj r Sem.pure from rfl,hg];simp only[Sem.run_bind,Result.andThen_ok,Sem.run_pure,J0w hk,J1a hk h,hf,Option.bind_some,List.getElem?_eq_getElem hj,Option.map_some,hset]
  ·rw[Jir hn hj hkj]
   have e1:(es.eraseIdxIfInBounds j).toList=es.toList.eraseIdx j:=by
    simp[Array.eraseIdxIfInBounds,hje]
   rw[e1,J1u,J1u,h]
end
theorem Jmd {α:Type} {m:IL α} {v:α} (hn:(m.map Prod.fst).Nodup):((J9h m k v).map Prod.fst).Nodup:=by
 unfold J9h;cases h:J0j m k with
 |some x=>
  simp only[Option.isSome_some,if_true]
  have e:(Jdi m k v).map Prod.fst=m.map Prod.fst:=by
   simp only[Jdi,List.map_map];apply List.map_congr_left
   intro p _
   simp only[Function.comp];split
   ·rename_i e;exact e.symm
   ·rfl
  rw[e];exact hn
 |none=>
  simp only[Option.isSome_none,Bool.false_eq_true,if_false,List.map_append,List.map_cons,List.map_nil];rw[List.nodup_append];refine⟨hn,by simp,?_⟩
  intro a ha b hb
  simp only[List.mem_cons,List.not_mem_nil,or_false] at hb;subst hb;rintro rfl;obtain⟨p,hp,he⟩:=List.mem_map.1 ha
  simp only[J0j,Option.map_eq_none_iff,List.find?_eq_none] at h;exact h p hp (by simpa using he)
theorem Jmb {α:Type} {m:IL α} (hn:(m.map Prod.fst).Nodup):((J4s m k).map Prod.fst).Nodup:=(List.filter_sublist.map Prod.fst).nodup hn
end Go.Proofs.YtefjbegnlolgbaaGreatDoor
