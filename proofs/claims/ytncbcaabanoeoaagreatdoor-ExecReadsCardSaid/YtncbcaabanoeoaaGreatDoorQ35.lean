/-
What the laid variables give to numbers with a point: their tables.
-/
import Derived.Deep.RegionHeld3
import Derived.OpenShut
import Derived.Test.YtncbcaabanoeoaaGreatDoorQ25
import Derived.Test.YtncbcaabanoeoaaGreatDoorQ26
import Derived.Test.YtncbcaabanoeoaaGreatDoorQ34
set_option linter.unusedVariables false
set_option linter.unusedSimpArgs false
set_option maxRecDepth 100000
set_option maxHeartbeats 8000000
namespace Go.Proofs.YtncbcaabanoeoaaGreatDoor
open Go Go.RowKit
variable {w0 w:World}{R r:Hp}{sb:Nat}
section
variable {P:Program} {W:World} {name:String} {rest:List (String×DataW Unit)} {g n fuel:Nat} {t e:TypeId} {cs:List Value} {d:DataW Unit} {es:List (DataW Unit)}
theorem Jnw {k:FloatKind} {x:DataW Unit×List MemPlace} (ht:P.underlying t=some (.float k)) (h:DataW.trod (fun _=>()) P W 0 (fun _=>true) false fuel t cs=some x):∃z,cs=[.float k z]/\x=(.lit (.float k z),[]):=by
 cases fuel with
 |zero=>simp[DataW.trod] at h
 |succ n=>
  unfold DataW.trod at h;rw[ht] at h;split at h<;>simp_all
theorem J8y (hg:P.globalNamed name=some g) (hty:(P.globals[g]?).map (·.type)=some t) (h:laidMet P ((name,d)::rest) W):
 ∃(cs:Array Value) (fuel:Nat) (p:List MemPlace),W.var? P name=some cs/\DataW.trod (fun _=>()) P W 0 (fun _=>true) false fuel t cs.toList=some (d,p):=by
 obtain⟨ps,⟨g',t',cs,fuel,p,q,hg',ht',hvar,hd,_,_⟩,_⟩:=h
 obtain rfl:=Option.some.inj (hg.symm.trans hg');obtain rfl:=Option.some.inj (hty.symm.trans ht');exact⟨cs,fuel,p,hvar,hd⟩
theorem J9p (hg:P.globalNamed name=some g) (hty:(P.globals[g]?).map (·.type)=some t) (ht:P.underlying t=some (.slice e)) (hc:P.cellsOf e=n) (hn:0<n) (hes:0<es.length) (h:laidMet P ((name,.slice es [])::rest) W):
 ∃R o c,W.cell? ⟨g,0,none⟩=some (.slice (some ⟨R,o,none⟩) es.length c)/\
  ∀i d,es[i]? =some d->∃fuel p ce,(∀j,j<n->W.cell? ⟨R,o+i*n+j,none⟩=ce[j]?)/\ce.length=n/\DataW.trod (fun _=>()) P W 0 (fun _=>true) false fuel e ce=some (d,p):=by
 obtain⟨cs,fuel,p,hvar,hd⟩:=J8y hg hty h
 rcases DataW.trod_slice ht hd with⟨_,hx⟩|⟨a,len,cap,el,rs,m,rfl,hcs,hx,_,hlc,_,hel,helem,hsp,_⟩
 ·cases hx
 have e0:=congrArg Prod.fst hx;simp only[DataW.slice.injEq] at e0;obtain⟨eE,eR⟩:=e0
 have hlen:len=es.length:=by rw[eE,List.length_map];exact hel.symm
 have key:∀i d,es[i]? =some d->∃p ce,W.cells? 0 (a.add (i*n)) n=some ce/\DataW.trod (fun _=>()) P W 0 (fun _=>true) false m e ce=some (d,p):=by
  intro i d hi
  rw[eE,List.getElem?_map] at hi;obtain⟨b,hb,rfl⟩:=Option.map_eq_some_iff.1 hi
  have hil:i<len:=by
   rcases Nat.lt_or_ge i len with h|h
   ·exact h
   ·rw[List.getElem?_eq_none (by omega)] at hb;cases hb
  have h1:=helem i hil;rw[hc,hb] at h1;obtain⟨ce,hce,hte⟩:=Option.bind_eq_some_iff.1 h1
  exact⟨b.2,ce,hce,hte⟩
 obtain⟨R,o,s⟩:=a
 obtain rfl:s=none:=by
  obtain⟨p0,ce,h1,_⟩:=key 0 es[0] (List.getElem?_eq_getElem hes)
  obtain⟨_,hl,hcc⟩:=World.cells?_some h1
  have:=hcc 0 hn
  rw[List.getElem?_eq_getElem (by omega)] at this
  simpa[Addr.add] using World.cell?_spot this
 refine⟨R,o,cap,?_,fun i d hi=>?_⟩
 ·rw[World.var?_cell hg hvar 0,<-Array.getElem?_toList,hcs,hlen];rfl
 ·obtain⟨p,ce,h1,h2⟩:=key i d hi
  obtain⟨_,hl,hcc⟩:=World.cells?_some h1
  refine⟨m,p,ce,fun j hj=>?_,hl,h2⟩
  have:=hcc j hj
  rw[J0i,J0i] at this;exact this
theorem J8u {xs:List (DataW Unit×List MemPlace)} {m i o:Nat} {k:IntKind} {z:Int} (hxs:es=xs.map (·.1)) (hu:P.underlying t=some (.int k)) (h:DataW.trod (fun _=>()) P W 0 (fun _=>true) false m t ((cs.drop o).take 1)=xs[i]?) (he:es[i]? =some (.lit (.int k z))):cs[o]? =some (.int k z):=by
 rw[hxs,List.getElem?_map] at he;obtain⟨b,hb,hbe⟩:=Option.map_eq_some_iff.1 he
 rw[hb] at h;obtain⟨z',h1,h2,_⟩:=DataW.trod_int hu h
 rw[h2] at hbe;simp only[DataW.lit.injEq,Lit.int.injEq,true_and] at hbe;have:=congrArg (·[0]?) h1
 rw[<-hbe];simpa[List.getElem?_take,List.getElem?_drop] using this
theorem Jsx {xs:List (DataW Unit×List MemPlace)} {m i o:Nat} {z:List UInt8} (hxs:es=xs.map (·.1)) (hu:P.underlying t=some .string) (h:DataW.trod (fun _=>()) P W 0 (fun _=>true) false m t ((cs.drop o).take 1)=xs[i]?) (he:es[i]? =some (.lit (.string z))):∃s:ByteArray,cs[o]? =some (.string s)/\s.data.toList=z:=by
 rw[hxs,List.getElem?_map] at he;obtain⟨b,hb,hbe⟩:=Option.map_eq_some_iff.1 he
 rw[hb] at h;obtain⟨s,h1,h2,_⟩:=DataW.trod_string hu h
 rw[h2] at hbe;simp only[DataW.lit.injEq,Lit.string.injEq] at hbe;have:=congrArg (·[0]?) h1
 exact⟨s,by simpa[List.getElem?_take,List.getElem?_drop] using this,hbe⟩
end
section
variable {W:World} {r:List (String×DataW Unit)}
theorem Jyr (h:laidMet Tryz.prog (("internal/strconv.optimize",Rows.laid_internal_strconv_optimize)::r) W):W.cell? ⟨9,0,none⟩=some (.bool true):=by
 obtain⟨cs,fuel,p,hv,hd⟩:=J8y (g:=9) (t:=4) (by kernel_rfl) (by kernel_rfl) h
 obtain⟨b,hb,hx⟩:=DataW.trod_bool Tryz.underlying4 hd
 rw[World.var?_cell (by kernel_rfl) hv 0,<-Array.getElem?_toList,hb]
 unfold Rows.laid_internal_strconv_optimize at hx;simp only[Prod.mk.injEq,DataW.lit.injEq,Lit.bool.injEq] at hx;rw[<-hx.1];rfl
theorem Jhq (h:laidMet Tryz.prog (("internal/strconv.float64info",Rows.laid_internal_strconv_float64info)::r) W):W.cell? ⟨10,0,none⟩=some (.int .u64 52)/\W.cell? ⟨10,1,none⟩=some (.int .u64 11)/\W.cell? ⟨10,2,none⟩=some (.int .i64 (-1023)):=by
 obtain⟨cs,fuel,p,hv,hd⟩:=J8y (g:=10) (t:=335) (by kernel_rfl) (by kernel_rfl) h
 obtain⟨xs,m,_,hx,_,_,hel⟩:=DataW.trod_struct Tryz.underlying335 hd
 have hxs:=congrArg Prod.fst hx;unfold Rows.laid_internal_strconv_float64info at hxs;simp only[DataW.agg.injEq] at hxs;have k1:Tryz.prog.cellsOf 132=1:=by kernel_rfl
 have k2:Tryz.prog.cellsOf 3=1:=by kernel_rfl
 have h0:DataW.trod (fun _=>()) Tryz.prog W 0 (fun _=>true) false m 132 ((cs.toList.drop 0).take (Tryz.prog.cellsOf 132))=xs[0]? :=hel 0 _ rfl
 have h1:DataW.trod (fun _=>()) Tryz.prog W 0 (fun _=>true) false m 132 ((cs.toList.drop 1).take (Tryz.prog.cellsOf 132))=xs[1]? :=hel 1 _ rfl
 have h2:DataW.trod (fun _=>()) Tryz.prog W 0 (fun _=>true) false m 3 ((cs.toList.drop 2).take (Tryz.prog.cellsOf 3))=xs[2]? :=hel 2 _ rfl
 rw[k1] at h0 h1;rw[k2] at h2;refine⟨?_,?_,?_⟩<;>rw[World.var?_cell (by kernel_rfl) hv,<-Array.getElem?_toList]
 ·exact J8u hxs Tryz.underlying132 h0 rfl
 ·exact J8u hxs Tryz.underlying132 h1 rfl
 ·exact J8u hxs Tryz.underlying3 h2 rfl
theorem Jz5 (h:laidMet Tryz.prog (("internal/strconv.powtab",Rows.laid_internal_strconv_powtab)::r) W):∃pb po pc,W.cell? ⟨12,0,none⟩=some (.slice (some ⟨pb,po,none⟩) 9 pc)/\∀i,i<9->∃n:Nat,1<=n/\n<=27/\W.cell? ⟨pb,po+i,none⟩=some (.int .i64 n):=by
 obtain⟨R,o,c,h1,h2⟩:=J9p (es:=[1,3,6,9,13,16,19,23,26].map fun z:Nat=>.lit (.int .i64 (z:Int))) (g:=12) (t:=52) (e:=3) (n:=1) (by kernel_rfl) (by kernel_rfl) Tryz.underlying52 (by kernel_rfl) (by decide) (by decide) h
 refine⟨R,o,c,h1,fun i hi=>?_⟩
 have hz:∀i,i<9->1<=[1,3,6,9,13,16,19,23,26].getD i 0/\[1,3,6,9,13,16,19,23,26].getD i 0<=27/\[1,3,6,9,13,16,19,23,26][i]? =some ([1,3,6,9,13,16,19,23,26].getD i 0):=by decide
 obtain⟨n1,n2,hn⟩:=hz i hi
 generalize [1,3,6,9,13,16,19,23,26].getD i 0=n at n1 n2 hn;obtain⟨f,p,ce,q1,q2,q3⟩:=h2 i (.lit (.int .i64 (n:Int))) (by rw[List.getElem?_map,hn];rfl)
 obtain⟨z,rfl,hx,_⟩:=DataW.trod_int Tryz.underlying3 q3
 simp only[Prod.mk.injEq,DataW.lit.injEq,Lit.int.injEq,true_and] at hx;have:=q1 0 (by decide)
 rw[Nat.mul_one] at this;exact⟨n,n1,n2,by rw[hx.1];exact this⟩
theorem Jvg:(Rows.laid_internal_strconv_float64pow10:DataW Unit)= .slice ((List.range 23).map fun i=>.lit (.float .f64 (f10 i))) []:=by kernel_rfl
theorem Jz4 (h:laidMet Tryz.prog (("internal/strconv.float64pow10",Rows.laid_internal_strconv_float64pow10)::r) W):Joa W:=by
 rw[Jvg] at h;obtain⟨R,o,c,h1,h2⟩:=J9p (g:=13) (t:=373) (e:=31) (n:=1) (by kernel_rfl) (by kernel_rfl) Tryz.underlying373 (by kernel_rfl) (by decide) (by simp) h
 rw[List.length_map,List.length_range] at h1;refine⟨R,o,c,h1,fun i hi=>?_⟩
 obtain⟨f,p,ce,q1,q2,q3⟩:=h2 i (.lit (.float .f64 (f10 i))) (by rw[List.getElem?_map,List.getElem?_range hi];rfl)
 obtain⟨z,rfl,hx⟩:=Jnw Tryz.underlying31 q3
 simp only[Prod.mk.injEq,DataW.lit.injEq,Lit.float.injEq,true_and] at hx;have:=q1 0 (by decide)
 rw[Nat.mul_one] at this;rw[hx.1];exact this
theorem Jm2:Pinned.cheatRows=(List.range 61).map fun k=>((J3n k).1,(J3n k).2.map fun c=>UInt8.ofNat (48+c)):=by decide+kernel
theorem Jpq:(List.range 61).all (fun k=>(J3n k).2.all (fun d=>decide (d<10))&&decide ((J3n k).2.length<=100))=true:=by decide+kernel
theorem Jsi (h:laidMet Tryz.prog (("internal/strconv.leftcheats",Rows.laid_internal_strconv_leftcheats)::r) W):Jfi W:=by
 unfold Rows.laid_internal_strconv_leftcheats Pinned.leftcheats at h;rw[Jm2,List.map_map] at h;obtain⟨R,o,c,h1,h2⟩:=J9p (g:=17) (t:=390) (e:=389) (n:=2) (by kernel_rfl) (by kernel_rfl) Tryz.underlying390 (by kernel_rfl) (by decide) (by simp) h
 rw[List.length_map,List.length_range] at h1;refine⟨R,o,c,h1,fun k hk=>?_⟩
 obtain⟨f,p,ce,q1,q2,q3⟩:=h2 k (.agg [.lit (.int .i64 (J3n k).1),.lit (.string ((J3n k).2.map fun c=>UInt8.ofNat (48+c)))]) (by rw[List.getElem?_map,List.getElem?_range hk];rfl)
 obtain⟨xs,m,_,hx,_,_,hel⟩:=DataW.trod_struct Tryz.underlying389 q3
 have hxs:=congrArg Prod.fst hx;simp only[DataW.agg.injEq] at hxs;have k1:Tryz.prog.cellsOf 3=1:=by kernel_rfl
 have k2:Tryz.prog.cellsOf 9=1:=by kernel_rfl
 have e0:DataW.trod (fun _=>()) Tryz.prog W 0 (fun _=>true) false m 3 ((ce.drop 0).take (Tryz.prog.cellsOf 3))=xs[0]? :=hel 0 _ rfl
 have e1:DataW.trod (fun _=>()) Tryz.prog W 0 (fun _=>true) false m 9 ((ce.drop 1).take (Tryz.prog.cellsOf 9))=xs[1]? :=hel 1 _ rfl
 rw[k1] at e0;rw[k2] at e1;have c0:=J8u hxs Tryz.underlying3 e0 rfl;obtain⟨s,c1,hs⟩:=Jsx hxs Tryz.underlying9 e1 rfl
 have g0:=q1 0 (by decide)
 have g1:=q1 1 (by decide)
 rw[c0] at g0;rw[c1] at g1;have ht:=List.all_eq_true.1 Jpq k (by simpa using hk)
 simp only[Bool.and_eq_true,List.all_eq_true,decide_eq_true_eq] at ht
 have hsz:s.size=(J3n k).2.length:=by
  have:=congrArg List.length hs
  simpa using this
 refine⟨g0,s,g1,hsz,fun j c hj hc=>?_,ht.1,ht.2⟩
 have h3:s.data.toList[j]? =some (UInt8.ofNat (48+c)):=by rw[hs,List.getElem?_map,hc];rfl
 have h4:s[j]=UInt8.ofNat (48+c):=by
  have h5:s.data[j]? =some (UInt8.ofNat (48+c)):=by rw[<-Array.getElem?_toList];exact h3
  have h6:s.data[j]'(hj)=UInt8.ofNat (48+c):=by
   rw[Array.getElem?_eq_getElem hj] at h5;exact Option.some.inj h5
  exact h6
 have hc9:c<10:=ht.1 c (List.mem_of_getElem? hc);rw[h4,UInt8.toNat_ofNat'];omega
theorem Juf:Pinned.pow10Rows=(List.range 696).map fun i:Nat=>(J2r ((i:Int) - 348),J36 ((i:Int) - 348)):=by decide+kernel
theorem Jyv (h:laidMet Tryz.prog (("internal/strconv.pow10Tab",Rows.laid_internal_strconv_pow10Tab)::r) W):J49 W:=by
 unfold Rows.laid_internal_strconv_pow10Tab Pinned.pow10Tab at h;rw[Juf,List.map_map] at h;obtain⟨cs,fuel,p,hv,hd⟩:=J8y (g:=16) (t:=384) (by kernel_rfl) (by kernel_rfl) h
 obtain⟨xs,m,_,hx,_,hxl,hel⟩:=DataW.trod_array Tryz.underlying384 hd
 have hxs:=congrArg Prod.fst hx;simp only[DataW.agg.injEq] at hxs;have k0:Tryz.prog.cellsOf 383=2:=by kernel_rfl
 have k1:Tryz.prog.cellsOf 90=1:=by kernel_rfl
 rw[k0] at hel
 have key:∀i:Nat,i<696->cs[i*2]? =some (.int .u64 (J2r ((i:Int) - 348)))/\cs[i*2+1]? =some (.int .u64 (J36 ((i:Int) - 348))):=by
  intro i hi
  have h1:=hel i hi
  have h2:(xs.map (·.1))[i]? =some (.agg [.lit (.int .u64 (J2r ((i:Int) - 348))),.lit (.int .u64 (J36 ((i:Int) - 348)))]):=by
   rw[<-hxs,List.getElem?_map,List.getElem?_range hi];rfl
  rw[List.getElem?_map] at h2;obtain⟨b,hb,hbe⟩:=Option.map_eq_some_iff.1 h2
  rw[hb] at h1;obtain⟨ys,m',_,hy,_,_,hel'⟩:=DataW.trod_struct Tryz.underlying383 h1
  rw[hy] at hbe;simp only[DataW.agg.injEq] at hbe;have e0:DataW.trod (fun _=>()) Tryz.prog W 0 (fun _=>true) false m' 90 ((((cs.toList.drop (i*2)).take 2).drop 0).take (Tryz.prog.cellsOf 90))=ys[0]? :=hel' 0 _ rfl
  have e1:DataW.trod (fun _=>()) Tryz.prog W 0 (fun _=>true) false m' 90 ((((cs.toList.drop (i*2)).take 2).drop 1).take (Tryz.prog.cellsOf 90))=ys[1]? :=hel' 1 _ rfl
  rw[k1] at e0 e1;have c0:=J8u hbe.symm Tryz.underlying90 e0 rfl;have c1:=J8u hbe.symm Tryz.underlying90 e1 rfl;simp only[List.getElem?_take,List.getElem?_drop,Array.getElem?_toList] at c0 c1;exact⟨by simpa using c0,by simpa using c1⟩
 exact⟨fun i hi=>by rw[World.var?_cell (by kernel_rfl) hv];exact(key i hi).1,fun i hi=>by rw[World.var?_cell (by kernel_rfl) hv];exact(key i hi).2⟩
end
theorem InX.get (h:Hid (InX w0 R w)) {p:Nat×Obj} (hp:p∈R):w.heap[p.1]? =some p.2:=by
 obtain⟨x,hx⟩:=h.out
 exact hx.own.right.at_ p hp
theorem J4c {mb:Nat} {o:Obj} {m:AL Value} (h:J3 w0 [] w ((mb,o)::r)) (hm:J2a o m) (hn:(m.map Prod.fst).Nodup) (key:ByteArray) (v:Value):
 ∃w' o',(Instr.mapUpdate 115 (.map (some mb)) (.string key) v).run Tryz.prog w= .ok () w'/\J2a o' (J2q m key v)/\((J2q m key v).map Prod.fst).Nodup/\J3 w0 [] w' ((mb,o')::r):=by
 obtain⟨o',hup,hm'⟩:=Jda (P:=Tryz.prog) (t:=115) Tryz.underlying115 Tryz.underlying9 h.own.head hm hn key v
 exact⟨_,o',hup,hm',J6j hn,h.obj rfl⟩
abbrev fv (f:FuncId):Value:=.func (.func f) #[] #[]
def Jxw:ByteArray:=⟨#[72,83,69,84]⟩
def Jlq:ByteArray:=⟨#[72,73,78,67,82,66,89]⟩
def Jvn:ByteArray:=⟨#[72,77,71,69,84]⟩
def Jlp:ByteArray:=⟨#[72,71,69,84,65,76,76]⟩
def Jxt:ByteArray:=⟨#[72,68,69,76]⟩
def Jxu:ByteArray:=⟨#[72,71,69,84]⟩
def Jxv:ByteArray:=⟨#[72,76,69,78]⟩
def Jlo:ByteArray:=⟨#[72,69,88,73,83,84,83]⟩
def J2l:AL Value:=(J2q (J2q (J2q (J2q (J2q (J2q (J2q (J2q [] Jxw (fv 99)) Jlq (fv 100)) Jvn (fv 101)) Jlp (fv 102)) Jxt (fv 103)) Jxu (fv 104)) Jxv (fv 106)) Jlo (fv 107))
theorem Jpy:Je J2l Jxw=some (fv 99):=by kernel_rfl
theorem Jhf:Je J2l Jlq=some (fv 100):=by kernel_rfl
theorem Jm6:Je J2l Jvn=some (fv 101):=by kernel_rfl
theorem Jhe:Je J2l Jlp=some (fv 102):=by kernel_rfl
theorem Jpv:Je J2l Jxt=some (fv 103):=by kernel_rfl
theorem Jpw:Je J2l Jxu=some (fv 104):=by kernel_rfl
theorem Jpx:Je J2l Jxv=some (fv 106):=by kernel_rfl
theorem Jhd:Je J2l Jlo=some (fv 107):=by kernel_rfl
theorem Jj7 (hS:J3 w0 [] w r):
 Calls Tryz.prog 50 #[] w (fun e w'=>∃mb o,e= .returned (.map (some mb))/\J2a o J2l/\J3 w0 [] w' ((mb,o)::r)):=by
 have hmm:=@run_makeMap Tryz.prog;have S0:=hS.alloc (.map #[] 0);clear hS;obtain⟨w1,o1,u1,m1,n1,S1⟩:=J4c S0 J2a.empty (by simp) ⟨#[72,83,69,84]⟩ (fv 99)
 obtain⟨w2,o2,u2,m2,n2,S2⟩:=J4c S1 m1 n1 ⟨#[72,73,78,67,82,66,89]⟩ (fv 100)
 obtain⟨w3,o3,u3,m3,n3,S3⟩:=J4c S2 m2 n2 ⟨#[72,77,71,69,84]⟩ (fv 101)
 obtain⟨w4,o4,u4,m4,n4,S4⟩:=J4c S3 m3 n3 ⟨#[72,71,69,84,65,76,76]⟩ (fv 102)
 obtain⟨w5,o5,u5,m5,n5,S5⟩:=J4c S4 m4 n4 ⟨#[72,68,69,76]⟩ (fv 103)
 obtain⟨w6,o6,u6,m6,n6,S6⟩:=J4c S5 m5 n5 ⟨#[72,71,69,84]⟩ (fv 104)
 obtain⟨w7,o7,u7,m7,n7,S7⟩:=J4c S6 m6 n6 ⟨#[72,76,69,78]⟩ (fv 106)
 obtain⟨w8,o8,u8,m8,n8,S8⟩:=J4c S7 m7 n7 ⟨#[72,69,88,73,83,84,83]⟩ (fv 107)
 have hend:Hid (J2a o8 J2l):=hid m8;replace S8:=hid S8;clear m1 m2 m3 m4 m5 m6 m7 m8 n1 n2 n3 n4 n5 n6 n7 n8 S0 S1 S2 S3 S4 S5 S6 S7;unfold fv at u1 u2 u3 u4 u5 u6 u7 u8;go_enter Tryz.func50,Tryz.ntmps50;go_wp2_with fail;go_ret;exact⟨_,o8,rfl,hend.out,S8.out⟩
def Js8 (w0:World) (R:Hp) (sb:Nat) (S:St) (kind:Int) (text:ByteArray) (n:Int) (xs:List Lf) (e:Ending) (w':World):Prop:=
 ∃a c vl l',e= .returned (J7 kind text n (.slice a xs.length c))/\J3s (.slice a xs.length c) xs vl/\Jh l' sb S/\J3 w0 [] w' (l'++(vl++R))
def Jxz (w0:World) (R:Hp) (sb:Nat) (S:St) (kind:Int) (text:ByteArray) (n:Int) (xs:List Lf) (e:Ending) (w':World):Prop:=
 ∃a c vl l',e= .returned (.tuple #[J7 kind text n (.slice a xs.length c),.bool true])/\J3s (.slice a xs.length c) xs vl/\Jh l' sb S/\J3 w0 [] w' (l'++(vl++R))
theorem Js8.leaf {S:St} {a:Lf} {e:Ending} {w':World} (h:Jp w0 R sb S (Ja a) e w'):Js8 w0 R sb S a.kind a.text a.n [] e w':=by
 obtain⟨rfl,l',h1,h2⟩:=h
 exact⟨none,0,[],l',rfl,.nil,h1,h2⟩
abbrev J1e (kd:Int) (tx:ByteArray) (nn:Int) (lv:Value):Obj:=.cells #[.int .i64 kd,.string tx,.int .i64 nn,.float .f64 0,.bool false,lv] 34 (0,0)
theorem J3.setVal {l:Hp} {b:Nat} {o0 o1 o2 o3 o4 o5:Value} {t:TypeId} (h:J3 w0 l w ((b,.cells #[o0,o1,o2,o3,o4,o5] t (0,0))::r)) (kd:Int) (tx:ByteArray) (nn:Int) (lv:Value):
 J3 w0 l ((((((w.setCell ⟨b,0,none⟩ (.int .i64 kd)).setCell ⟨b,1,none⟩ (.string tx)).setCell ⟨b,2,none⟩ (.int .i64 nn)).setCell ⟨b,3,none⟩ (.float .f64 0)).setCell ⟨b,4,none⟩ (.bool false)).setCell ⟨b,5,none⟩ lv) ((b,.cells #[.int .i64 kd,.string tx,.int .i64 nn,.float .f64 0,.bool false,lv] t (0,0))::r):=by
 have k:=(((((h.set 0 (.int .i64 kd)).set 1 (.string tx)).set 2 (.int .i64 nn)).set 3 (.float .f64 0)).set 4 (.bool false)).set 5 lv;rw[set6] at k;exact k
structure Res where
 st:St
 kd:Int
 tx:ByteArray
 nn:Int
 xs:List Lf
def J10 (p:St×Lf):Res:=⟨p.1,p.2.kind,p.2.text,p.2.n,[]⟩
def Jgw (w0:World) (R:Hp) (sb:Nat) (P:Res->Prop) (e:Ending) (w':World):Prop:=∃o:Res,P o/\Jxz w0 R sb o.st o.kd o.tx o.nn o.xs e w'
def J2w (w0:World) (R:Hp) (sb:Nat) (P:Res->Prop) (e:Ending) (w':World):Prop:=∃o:Res,P o/\Js8 w0 R sb o.st o.kd o.tx o.nn o.xs e w'
theorem J2w.leaf {P:Res->Prop} {p:St×Lf} (hP:P (J10 p)) {e:Ending} {w':World} (h:Jp w0 R sb p.1 (Ja p.2) e w'):J2w w0 R sb P e w':=⟨_,hP,Js8.leaf h⟩
def Jid:List (List UInt8×FuncId×(Value->Array Value)):=
 [([83,69,84],40,fun j=>#[j]),([83,69,84,78,88],41,fun j=>#[j]),([71,69,84,83,69,84],42,fun j=>#[j,.bool false]),([71,69,84,68,69,76],42,fun j=>#[j,.bool true]),([77,71,69,84],43,fun j=>#[j]),([77,83,69,84],44,fun j=>#[j]),
   ([73,78,67,82],45,fun j=>#[j,.int .i64 1]),([68,69,67,82],45,fun j=>#[j,.int .i64 (-1)]),([73,78,67,82,66,89],46,fun j=>#[j,.bool false]),([68,69,67,82,66,89],46,fun j=>#[j,.bool true]),([73,78,67,82,66,89,70,76,79,65,84],47,fun j=>#[j]),
   ([65,80,80,69,78,68],48,fun j=>#[j]),([83,84,82,76,69,78],49,fun j=>#[j])]
theorem Jy9 {l:Hp} {S:St} {P:Res->Prop} {g off:Nat} {c k:ByteArray} {ws:List ByteArray} (h:Ctx w0 w l r sb S g off (c::k::ws)) (sp:Sp) (hc:Ku (c::k::ws)=(sp,ByteArray.empty)) (now:Int) (cap:Nat) (hcap:(c::k::ws).length<=cap) (hcap2:cap<=9223372036854775807)
 (hjob:(∃f av,(sp.name.toList,f,av)∈Jid/\∀(w':World) (x:Hp),Ctx w0 w' l (x++r) sb S g (off+1) (k::ws)->Calls Tryz.prog f (av (Kv sb now g (off+1) (k::ws).length (cap - 1))) w' (J2w w0 (x++r) sb P))\/sp.name.toList=[71,69,84]/\P (J10 (Jz2 S now k))):
  Calls Tryz.prog 24 #[ptr sb,.int .i64 now,.slice (some ⟨g,off,none⟩) (c::k::ws).length cap] w (Jgw w0 r sb P):=by
  have H:=h.alloc J4;have hchk:=J3g H.st (H.args.more (x:=l)) cap;rw[hc] at hchk;clear hc;unfold J1c Sp.val K8 at hchk;simp only at hchk
  have hx:∀(w':World) (x:Hp),J3 w0 [] w' (l++(x++r))->Ctx w0 w' l (x++r) sb S g (off+1) (k::ws):=fun w' x hS=>(h.at (x:=x) rfl hS).tail
  obtain⟨n,hlen⟩:∃n,(c::k::ws).length=n:=⟨_,rfl⟩
  have hlen1:(k::ws).length=n - 1:=by rw[<-hlen];simp only[List.length_cons];omega
  have hn:1<n:=by rw[<-hlen];simp only[List.length_cons];omega
  rw[hlen] at hchk hcap⊢;rw[hlen1] at hjob;have hc1:¬cap - 1=0:=by omega
  have hn3:(1:Int)<(n:Int):=by omega
  have hn4:0<n:=by omega
  replace hlen:=hid hlen;replace hlen1:=hid hlen1;replace hchk:=hid hchk;replace hx:=hid hx;replace hjob:=hid hjob;clear h H;go_enter Tryz.func24,Tryz.ntmps24;go_wp2_with fail;refine hchk.out.mono ?_;rintro e w2 ⟨rfl,S2⟩;clear hchk;go_upto_region 2 with fail;have S3:J3 w0 [] _ ((_,J14 sp)::_):=S2.alloc (.cells #[.string sp.name,.int .i64 sp.kind,.int .i64 sp.least,.int .i64 sp.most,.int .i64 sp.first,.int .i64 sp.last,.int .i64 sp.step] 45);generalize hw3:w2.alloc _=w3;replace S3:J3 w0 [] w3 _:=hw3▸S3;clear hw3 S2;generalize w2.heap.size=b1 at S3⊢;generalize w.heap.size=b at S3⊢;have nm:=J2 S3.own.head 0;simp only[List.getElem?_toArray,List.getElem?_cons_zero] at nm;go_upto_region 5 with fail;have S4:=S3.alloc (Jy sb now g (off+1) (n - 1) (cap - 1));generalize hw4:w3.alloc _=w4;replace S4:J3 w0 [] w4 _:=hw4▸S4;clear hw4 S3 nm;generalize w3.heap.size=b2 at S4⊢;have nm:=J2 S4.own.tail.head 0;simp only[List.getElem?_toArray,List.getElem?_cons_zero] at nm;obtain⟨j0,j1,j2⟩:=Jtl S4.own.head
  obtain⟨X,hX⟩:∃X:Hp,X=[(b2,Jy sb now g (off+1) (n - 1) (cap - 1)),(b1,J14 sp),(b,J4)]:=⟨_,rfl⟩
  have S5:J3 w0 [] w4 (l++(X++r)):=S4.permR (J5 fun f=>by
   rw[hX];simp only[SC];omega)
  have hend:Hid (∀(w':World) (l3 xl:Hp),J3 w0 [] w' (l3++(xl++(X++r)))->J3 w0 [] w' ((b,J4)::(l3++(xl++r)++[(b2,Jy sb now g (off+1) (n - 1) (cap - 1)),(b1,J14 sp)]))):=hid fun w' l3 xl h=>h.permR (J5 fun f=>by
   rw[hX];simp only[SC];omega)
  clear S4;replace hX:=hid hX;have hjob:=hjob.out;rcases hjob with⟨f,av,hm,hjob⟩|⟨hnm,hP⟩
  ·replace hjob:=hid hjob
   simp only[Jid,List.mem_cons,Prod.mk.injEq,List.not_mem_nil,or_false] at hm;rcases hm with⟨hnm,rfl,rfl⟩|⟨hnm,rfl,rfl⟩|⟨hnm,rfl,rfl⟩|⟨hnm,rfl,rfl⟩|⟨hnm,rfl,rfl⟩|⟨hnm,rfl,rfl⟩|⟨hnm,rfl,rfl⟩|⟨hnm,rfl,rfl⟩|⟨hnm,rfl,rfl⟩|⟨hnm,rfl,rfl⟩|⟨hnm,rfl,rfl⟩|⟨hnm,rfl,rfl⟩|⟨hnm,rfl,rfl⟩
   all_goals
    have hj:=hjob.out w4 X (hx.out w4 X S5);unfold Kv at hj;dsimp only at hj
    replace hj:=hid hj;clear S5 hx hjob;go_wp2_with fail;refine hj.out.mono ?_;rintro e w5 ⟨⟨T,kd,tx,nn,xs⟩,hP,la,lc,xl,l5,rfl,hxl,hX5,S6⟩;simp only at hxl hX5 S6
    have S7:=hend.out w5 l5 xl S6;obtain⟨⟨c0,hc0⟩,⟨c1,hc1⟩,⟨c2,hc2⟩,⟨c3,hc3⟩,⟨c4,hc4⟩,⟨c5,hc5⟩,fz,hlt⟩:=Jl S7.own.head
    obtain⟨m,hm⟩:∃m,m=xs.length:=⟨_,rfl⟩
    rw[<-hm] at hxl⊢;have S9:=hid (((S7.setVal kd tx nn (.slice la m lc)).less (List.sublist_cons_self _ _)).less (List.sublist_append_left _ _));replace hP:=hid hP;replace hX5:=hid hX5;replace hxl:=hid hxl;replace hm:=hid hm;clear hj S6 S7 hend;unfold J7;go_wp2_with fail;refine bodyPost_ret (v:=.tuple #[J7 kd tx nn (.slice la m lc),.bool true]) (by simp[results,Tryz.results24,go_sem,J7, *]<;>rfl) rfl ?_
    refine⟨⟨T,kd,tx,nn,xs⟩,hP.out,la,lc,xl,l5,?_,?_,hX5.out,S9.out⟩
    ·simp only;rw[hm.out]
    ·simp only;rw[<-hm.out];exact hxl.out
  ·obtain⟨R,hR⟩:∃R:Hp,R=[(b2,Jy sb now g (off+1) (n - 1) (cap - 1)),(b1,J14 sp)]++r:=⟨_,rfl⟩
   have H:=hx.out w4 [(b2,Jy sb now g (off+1) (n - 1) (cap - 1)),(b1,J14 sp)] (S5.pick (m:=[(b,J4)]) (J5 fun f=>by
    rw[hX.out];simp only[SC];omega))
   rw[<-hR] at H
   have S6:J3 w0 [] w4 ([(b,J4)]++(l++R)):=S5.permR (J5 fun f=>by
    rw[hR,hX.out];simp only[SC];omega)
   have hget:∀(w':World) (x:Hp),Hid (J3 w0 [] w' (x++(l++R))->_):=fun w' x=>hid fun hw=>H.get k (by simp) now x hw
   have htold:∀(w':World) (L:Hp) (v:Value),Hid (J3 w0 [] w' L->_):=fun w' L v=>hid fun hw=>Jf1 hw (S.look k now) v
   have hs1:Hid (J3 w0 [] w4.drew ([(b,J4)]++(l++R))):=hid S6.drew;have hx1:Hid (InX w0 R w4.drew):=hid ⟨[(b,J4)]++l,by rw[List.append_assoc];exact S6.drew⟩
   have hkeep:Hid (∀w':World,Hid (InX w0 R w')->w'.cell? ⟨b2,0,none⟩=some (ptr sb)/\w'.cell? ⟨g,off+1,none⟩=some (.string k)/\Hid (InX w0 R w')):=hid fun w' hw=>by
    obtain⟨x,hw2⟩:=hw.out
    exact⟨J2 (hw2.own.right.at_ (b2,Jy sb now g (off+1) (n - 1) (cap - 1)) (by rw[hR];simp)) 0,H.args.at_ w' x hw2 0 k rfl,hw⟩
   replace hP:P (J10 (S.get k now,J3j (S.look k now))):=hP;generalize J3j (S.look k now)=a at htold hP;generalize ((S.look k now).getD Jc).kind=kd at hget htold;generalize ((S.look k now).getD Jc).text=tx at hget htold;generalize (S.look k now).isSome=is at hget htold;generalize ((S.look k now).getD Jc).fs=fs at hget;unfold Ja J7 at htold
   have hend:Hid (∀(w':World) (l3 vl:Hp),J3 w0 [] w' (l3++(vl++R))->J3 w0 [] w' (l3++r)):=hid fun w' l3 vl h=>h.pick (m:=vl++[(b2,Jy sb now g (off+1) (n - 1) (cap - 1)),(b1,J14 sp)]) (J5 fun f=>by
    rw[hR];simp only[SC];omega)
   replace hP:=hid hP;clear hx hlen1 H S5 S6 hR hX;go_upto_region 7 with fail
   go_region_held3 (fun w'=>w'.cell? ⟨b2,0,none⟩=some (ptr sb)/\w'.cell? ⟨g,off+1,none⟩=some (.string k)/\Hid (InX w0 R w'))
    (first|(with_reducible exact hkeep.out _ hx1)|(with_reducible exact hkeep.out _ (hset.out _ _ _ _ _ _))|(with_reducible exact hkeep.out _ (by assumption))|(fail "keep"))
    (first|(go_at_call 39;refine((hget _ _).out hs1.out).mono ?_;rintro e w5 ⟨va,vn,vc,vl,l2,rfl,hat,hX2,S2,hx2⟩)|(go_at_call 38;refine((htold _ _ _).out S2.out).mono ?_;rintro e w6 ⟨rfl,S3⟩;obtain⟨⟨c0,hc0⟩,⟨c1,hc1⟩,⟨c2,hc2⟩,⟨c3,hc3⟩,⟨c4,hc4⟩,⟨c5,hc5⟩,fz,hlt⟩:=Jl S3.own.head;have hset:Hid (∀v0 v1 v2 v3 v4 v5,_):=hid fun v0 v1 v2 v3 v4 v5=>InX.set6 (A:=l2++vl) (R:=R) (by rw[List.append_assoc];exact S3) v0 v1 v2 v3 v4 v5;have hx3:Hid (InX w0 R w6):=hid (S3.inX ([_]++(l2++vl)) (by rw[List.append_assoc,List.append_assoc]));replace S3:=hid S3))
   all_goals (
    have S9:=hid (hend.out _ l2 vl (S3.out.setLf a));clear hend hget htold hs1 hx1 hkeep hset hx2 hx3 S2 S3;go_wp2_with fail;refine bodyPost_ret (v:=.tuple #[Ja a,.bool true]) (by simp[results,Tryz.results24,go_sem,Ja,J7, *]<;>rfl) rfl ?_
    exact⟨_,hP.out,none,0,[],l2,rfl,.nil,hX2.out,S9.out⟩)
end Go.Proofs.YtncbcaabanoeoaaGreatDoor
