/-
slices.Insert of one field (at the end; in place; in a new row).
-/
import Derived.Deep.RegionLaw
import Derived.Laws.IdiomCopy
import Derived.Lib.AppendZerosOnto
import Derived.Lib.Overlaps
import Derived.Test.YtncbcaabanoeoaaGreatDoorQ02
set_option linter.unusedVariables false
set_option linter.unusedSimpArgs false
set_option maxRecDepth 100000
set_option maxHeartbeats 8000000
namespace Go.Proofs.YtncbcaabanoeoaaGreatDoor
open Go Go.RowKit
variable {P:Program}{w w0:World}{l r:Hp}{vb g:Nat}{f:ByteArray × ByteArray}
theorem J48 (w:World) (dT sT ty elem:TypeId) (k g o dLen dCap:Nat) (a:Addr) (sLen sCap:Nat) (cur:List Value) (t:TypeId) (cs:List Value)
 (hu:P.underlying dT=some (.slice elem)) (hs:(P.info? elem).map (·.size)=some k)
 (hg:w.heap[g]? =some (.cells cur.toArray t (0,0))) (hn:cs.length=Nat.min sLen dLen*k)
 (hsrc:∀j v,cs[j]? =some v->w.cell? (a.add j)=some v) (hfit:o+cs.length<=cur.length) (h1:∀v∈cs,v.oneCell'=true):
  (Builtin.copy_ #[dT,sT] ty #[.slice (some ⟨g,o,none⟩) dLen dCap,.slice (some a) sLen sCap]).run P w=
   .ok (goInt (Nat.min sLen dLen)) (w.setRow g (cur.take o++cs++cur.drop (o+cs.length)).toArray):=by
  have hl:=run_loadCells_list (P:=P) w a cs hsrc;have hst:=run_storeCells_at P g o t cs 0 cur.toArray w hg (by simpa using hfit) h1
  rw[hn] at hl;cases hq:P.info? elem with
  |none=>simp[hq] at hs
  |some i=>
   have hi:i.size=k:=by simpa[hq] using hs
   simp[Builtin.copy_,run_underlying hu,Builtin.lenOf,Builtin.firstCells,sizeOf,typeInfo,hq,hi,hl,hst]
theorem J9h {ops:Array Oper} {o:Oper} {a:Act} {K:Act->World->Prop} {Q:Exit->Act->World->Prop} {E:Prop}
 (hg:o.guard=none) (d x:Operand) (dT sT:TypeId) (hop:o.op=Op.call {callee:=Callee.builtin Builtin.copy,args:=#[d,x],argTypes:=#[dT,sT]})
 (v u:Value) (hd:a.eval d=v) (hx:a.eval x=u) {v':Value} {w':World} (hr:(Builtin.copy_ #[dT,sT] o.type #[v,u]).run P w= .ok v' w') (hK:K (a.put o.dst v') w'):
  if Region.wanted o (yielded ops a.tmps)=true then Oper.wp P o a w K Q else E:=by
  have hw:Region.wanted o (yielded ops a.tmps)=true:=by simp[Region.wanted,hg]
  rw[if_pos hw];unfold Oper.wp;simp[execOp,hop,resolve,invoke,builtin,hd,hx,hr,Result.andThen];exact hK
theorem J6r (w:World) {ops:Array Oper} {rest:List Oper} {o:Oper} {a:Act} {Q:Exit->Act->World->Prop} (hgd:o.guard=none) (d s:Operand) (t t':TypeId)
 (ho:o.op= .call {callee:=.builtin .copy,args:=#[d,s],argTypes:=#[t,t']}) (v u:Value) (hd:a.eval d=v) (hs:a.eval s=u) {v':Value} {w':World}
 (hr:(Builtin.copy_ #[t,t'] o.type #[v,u]).run P w= .ok v' w') (h:wpList P ops Q rest (a.put o.dst v') w'):wpList P ops Q (o::rest) a w:=by
  refine wpList_plain hgd fun _ hK=>?_
  unfold Oper.wp execOp;simp only[ho,resolve,invoke,builtin,Sem.run_bind,Sem.run_pure,Result.andThen_ok,List.map_toArray,List.map_cons,List.map_nil,hd,hs,hr];exact hK _ _ h
theorem Jnk {α:Type} (a b rest:List α) (u1 u2 f1 f2:α):
 (((a++b++u1::u2::rest).take (a.length+2)++b++(a++b++u1::u2::rest).drop (a.length+2+b.length)).take a.length++[f1,f2]++
   ((a++b++u1::u2::rest).take (a.length+2)++b++(a++b++u1::u2::rest).drop (a.length+2+b.length)).drop (a.length+2))=a++f1::f2::(b++rest):=by
 have h1:(a++b++u1::u2::rest).take (a.length+2)=a++(b++u1::u2::rest).take 2:=by rw[List.append_assoc,List.take_append,List.take_of_length_le (by omega)];simp
 have hd:((b++u1::u2::rest).take 2).length=2:=by simp;omega
 have h2:(a++b++u1::u2::rest).drop (a.length+2+b.length)=rest:=by
  have e:a.length+2+b.length=(a++b++[u1,u2]).length:=by simp;omega
  have e2:a++b++u1::u2::rest=(a++b++[u1,u2])++rest:=by simp
  rw[e,e2,List.drop_left]
 rw[h1,h2];generalize (b++u1::u2::rest).take 2=d at hd;have h3:(a++d++b++rest).take a.length=a:=by simp
 have h4:(a++d++b++rest).drop (a.length+2)=b++rest:=by
  have e:a.length+2=(a++d).length:=by simp[hd]
  rw[e,List.append_assoc (a++d),List.drop_left]
 rw[h3,h4];simp
def Ja3 (w0:World) (l r:Hp) (vb:Nat) (gs:Fs) (f:ByteArray×ByteArray) (e:Ending) (w':World):Prop:=
 ∃v' sl',e= .returned v'/\SliceHp 2 93 v' gs.length (J9 gs) sl'/\J3 w0 l w' (sl'++((vb,.cells #[.string f.1,.string f.2] 93 (0,0))::r))
theorem Jmi {sl:Hp} {v:Value} {fs:Fs} (hS:J3 w0 l w (sl++((vb,.cells #[.string f.1,.string f.2] 93 (0,0))::r)))
 (hat:SliceHp 2 93 v fs.length (J9 fs) sl) (hB:fs.length<=1048576):
  Calls Tryz.prog 202 #[v,.int .i64 fs.length,.slice (some ⟨vb,0,none⟩) 1 1] w (Ja3 w0 l r vb (fs++[f]) f):=by
  have hv:=hS.own.right.head;obtain⟨v',w2,sl',hrun,hsl',S2,_⟩:=J1f (P:=Tryz.prog) (ty:=57) Tryz.underlying57 Tryz.underlying57 J43 rfl (by decide) hS hat
   ⟨vb,0,none⟩ 1 1 [.string f.1,.string f.2] rfl (by
    intro j u hu
    have hadd:(⟨vb,0,none⟩:Addr).add j=⟨vb,j,none⟩:=by unfold Addr.add;split<;>simp_all
    rw[hadd,J2 hv];simpa using hu) (by simp[Value.oneCell']) (by omega) (by omega) (by unfold maxLen;omega)
  have hfin:Hid (Ja3 w0 l r vb (fs++[f]) f (.returned v') w2):=
   ⟨v',sl',rfl,by rw[J0t,List.length_append];exact hsl',S2⟩
  have hshape:∃a c,v= .slice a fs.length c/\fs.length<=c/\c<=maxLen:=by
   generalize fs.length=n at hat;generalize J9 fs=xs at hat;cases hat with
   |nil=>exact⟨_,_,rfl,Nat.le_refl _,by decide⟩
   |laid g n cap xs rest hx hr hn hc=>exact⟨_,_,rfl,hn,hc⟩
  obtain⟨a,c,rfl,hc1,hc2⟩:=hshape
  unfold maxLen at hc2;have hz:((1:Int)==0)=false:=by decide
  clear hat hS hv S2 hsl';replace hrun:=hid hrun;go_enter Tryz.func202,Tryz.ntmps202;go_wp2_with (at_builtin;refine J8 rfl _ _ _ _ rfl _ _ rfl rfl hrun.out ?_);all_goals
   go_ret;exact hfin.out
theorem J8s:(Tryz.prog.info? 93).map (·.size)=some 2:=by kernel_rfl
theorem Jru (w:World):(Go.sizeOf 93).run Tryz.prog w= .ok 2 w:=by
 obtain⟨i,hi,hz,hsz,hby⟩:=info_parts J43
 simp[sizeOf,typeInfo,hi,hsz]
theorem Jk9 {j lb cb:Nat} {cs cv:Array Value} (hv:w.heap[vb]? =some (.cells cv 93 (0,0))) (hg:w.heap[g]? =some (.cells cs 93 (0,0))) (hne:vb≠g) (hs:cs.size≠0):
 (callFunc 226 #[.slice (some ⟨vb,0,none⟩) 1 1,.slice (some ⟨g,j,none⟩) lb cb]).run Tryz.prog w= .ok (.value (.bool false)) w:=by
 rw[run_callFunc_extern Tryz.func226 (by kernel_rfl) (by kernel_rfl) (by kernel_rfl) (e:=Extern.SlicesOverlaps.overlaps #[57,57] #[4]) (by kernel_rfl),
  Lib.run_overlaps_apart w 57 4 93 Tryz.underlying57 2 Jru ⟨vb,0,none⟩ ⟨g,j,none⟩ 1 1 lb cb hne 93 93 cv.size cs.size (by simp[World.shape?,hv]) (by simp[World.shape?,hg]) hs
   (Jg hv 0) (Jg hv _)]
 rfl
theorem J0i (b o j:Nat):(⟨b,o,none⟩:Addr).add j=⟨b,o+j,none⟩:=by unfold Addr.add;split<;>simp_all
theorem Jjv {cap:Nat} {A B:Fs} {rest:List Value} {u1 u2:Value}
 (hS:J3 w0 l w ((g,.cells (J9 (A++B)++u1::u2::rest).toArray 93 (0,0))::(vb,.cells #[.string f.1,.string f.2] 93 (0,0))::r))
 (hB:0<B.length) (hc:A.length+B.length+1<=cap) (hm:cap<=maxLen):
  Calls Tryz.prog 202 #[.slice (some ⟨g,0,none⟩) (A.length+B.length) cap,.int .i64 A.length,.slice (some ⟨vb,0,none⟩) 1 1] w fun e w'=>
   e= .returned (.slice (some ⟨g,0,none⟩) (A.length+B.length+1) cap)/\
    J3 w0 l w' ((g,.cells (J9 (A++f::B)++rest).toArray 93 (0,0))::(vb,.cells #[.string f.1,.string f.2] 93 (0,0))::r):=by
  unfold maxLen at hm;have hg:=hS.own.head;have hv:=hS.own.tail.head;have hne:vb≠g:=by
   have:=hS.own.nd;simp only[J0y,List.nodup_cons,List.mem_cons,not_or] at this
   exact fun e=>this.1.1 e.symm
  have hlA:=K7 A;have hlB:=K7 B;have hov:∀lb cb,(callFunc 226 #[.slice (some ⟨vb,0,none⟩) 1 1,.slice (some ⟨g,(A.length+1)*2,none⟩) lb cb]).run Tryz.prog w= .ok (.value (.bool false)) w:=
   fun lb cb=>Jk9 hv hg hne (by simp)
  rw[J0t] at hg hS;have hcp1:∀n n2 ty dc sc,n=B.length->n2=B.length+1->(Builtin.copy_ #[57,57] ty #[.slice (some ⟨g,(A.length+1)*2,none⟩) n dc,.slice (some ⟨g,A.length*2,none⟩) n2 sc]).run Tryz.prog w.drew=
   .ok (goInt B.length) (w.drew.setRow g ((J9 A++J9 B++u1::u2::rest).take ((A.length+1)*2)++J9 B++(J9 A++J9 B++u1::u2::rest).drop ((A.length+1)*2+(J9 B).length)).toArray):=fun n n2 ty dc sc hn hn2=>by
   have hmin:Nat.min n2 n=B.length:=by simp only[Nat.min_def];split<;>omega
   have:=J48 (P:=Tryz.prog) w.drew 57 57 ty 93 2 g ((A.length+1)*2) n dc ⟨g,A.length*2,none⟩ n2 sc
    (J9 A++J9 B++u1::u2::rest) 93 (J9 B) Tryz.underlying57 J8s hg (by rw[hmin];exact hlB) (by
     intro j u hu
     have hj:j<(J9 B).length:=(List.getElem?_eq_some_iff.1 hu).1;rw[J0i,J2 (hS.drew.own.head),List.getElem?_toArray,List.append_assoc,List.getElem?_append_right (by omega),hlA,Nat.add_sub_cancel_left,List.getElem?_append_left hj,hu]) (by simp;omega) (J4b B)
   rw[hmin] at this;exact this
  have hs1:J3 w0 l _ _:=J3.put (w2:=w.drew.setRow g ((J9 A++J9 B++u1::u2::rest).take ((A.length+1)*2)++J9 B++(J9 A++J9 B++u1::u2::rest).drop ((A.length+1)*2+(J9 B).length)).toArray) hS.drew (by simp[World.setRow]) (setRow_heap w.drew g _ _ _ _ hS.drew.own.head) (fun k hk=>setRow_other w.drew g k _ hk) rfl rfl
  obtain⟨W1,hW1⟩:∃W1,W1=w.drew.setRow g ((J9 A++J9 B++u1::u2::rest).take ((A.length+1)*2)++J9 B++(J9 A++J9 B++u1::u2::rest).drop ((A.length+1)*2+(J9 B).length)).toArray:=⟨_,rfl⟩
  rw[<-hW1] at hcp1 hs1;clear hW1;have e1:(A.length+1)*2=(J9 A).length+2:=by omega
  have e2:A.length*2=(J9 A).length:=by omega
  have hcp2:∀n ty dc,n=B.length+1->(Builtin.copy_ #[57,57] ty #[.slice (some ⟨g,A.length*2,none⟩) n dc,.slice (some ⟨vb,0,none⟩) 1 1]).run Tryz.prog W1=
   .ok (goInt 1) (W1.setRow g (J9 (A++f::B)++rest).toArray):=fun n ty dc hn=>by
   have hmin:Nat.min 1 n=1:=by simp only[Nat.min_def];split<;>omega
   have:=J48 (P:=Tryz.prog) W1 57 57 ty 93 2 g (A.length*2) n dc ⟨vb,0,none⟩ 1 1
    _ 93 [.string f.1,.string f.2] Tryz.underlying57 J8s hs1.own.head (by rw[hmin];rfl) (by
     intro j u hu
     rw[J0i,J2 hs1.own.tail.head];simpa using hu) (by simp;omega) (by simp[Value.oneCell'])
   rw[hmin] at this;rw[this];congr 3
   simp only[List.length_cons,List.length_nil,e1,e2];have:=Jnk (J9 A) (J9 B) rest u1 u2 (.string f.1) (.string f.2)
   rw[this];simp[J0t,J9]
  have hfin:=hid (J3.put (w2:=W1.setRow g (J9 (A++f::B)++rest).toArray) hs1 (by simp[World.setRow]) (setRow_heap W1 g _ _ _ _ hs1.own.head) (fun k hk=>setRow_other W1 g k _ hk) rfl rfl)
  have hz1:¬((A.length:Int)=(A.length:Int)+(B.length:Int)):=by omega
  have hin:A.length<=A.length+B.length:=by omega
  have hb1:(0:Int)<=(A.length:Int)+1:=by omega
  have hb2:¬(cap=A.length+1):=by omega
  have hb3:(A.length:Int)<=(A.length:Int)+(B.length:Int)+1:=by omega
  have hb4:¬(cap=A.length):=by omega
  have hb5:(A.length:Int)+1<=(A.length:Int)+(B.length:Int)+1:=by omega
  have hb6:(0:Int)<=(A.length:Int)+(B.length:Int)+1:=by omega
  have htn:((A.length:Int)+1).toNat=A.length+1:=by omega
  have hsub:A.length+B.length+1 - A.length=B.length+1:=by omega
  have hw1:IntKind.i64.wrap ((A.length:Int)+1)=(A.length:Int)+1:=IntWalk.i64_in _ (by omega)
  clear hS hg hv hs1 hlA hlB e1 e2 hne;go_enter Tryz.func202,Tryz.ntmps202;go_wp2_with (simp only[hov]);go_region_law (refine J9h rfl _ _ 57 57 rfl (.slice (some ⟨g,(A.length+1)*2,none⟩) B.length (cap - (A.length+1))) (.slice (some ⟨g,A.length*2,none⟩) (B.length+1) (cap - A.length)) (by simp[Act.eval,Act.put]) (by simp[Act.eval,Act.put]) (hcp1 _ _ _ _ _ rfl rfl) ?_)
  go_wp2_with (at_builtin;refine J6r _ rfl _ _ 57 57 rfl _ _ rfl rfl (hcp2 _ _ _ rfl) ?_);go_ret;exact⟨rfl,hfin.out⟩
theorem Jqg {α:Type} (a b z:List α) (f1 f2:α) (hz:2+b.length<=z.length):
 (((a++z).take a.length++[f1,f2]++(a++z).drop (a.length+2)).take (a.length+2)++b++((a++z).take a.length++[f1,f2]++(a++z).drop (a.length+2)).drop (a.length+2+b.length))=a++f1::f2::(b++z.drop (2+b.length)):=by
 have h1:(a++z).take a.length=a:=by simp
 have h2:(a++z).drop (a.length+2)=z.drop 2:=by rw[<-List.drop_drop];simp
 rw[h1,h2];have e:a.length+2=(a++[f1,f2]).length:=by simp
 have h3:(a++[f1,f2]++z.drop 2).take (a.length+2)=a++[f1,f2]:=by rw[e,List.take_left]
 have h4:(a++[f1,f2]++z.drop 2).drop (a.length+2+b.length)=z.drop (2+b.length):=by
  rw[<-List.drop_drop,e,List.drop_left,List.drop_drop]
 rw[h3,h4];simp
theorem Jju {cap:Nat} {A B:Fs} {rest:List Value}
 (hS:J3 w0 l w ((g,.cells (J9 (A++B)++rest).toArray 93 (0,0))::(vb,.cells #[.string f.1,.string f.2] 93 (0,0))::r))
 (hB:0<B.length) (hc:A.length+B.length<=cap) (hlt:cap<A.length+B.length+1) (hsm:A.length+B.length<=1048576):
  Calls Tryz.prog 202 #[.slice (some ⟨g,0,none⟩) (A.length+B.length) cap,.int .i64 A.length,.slice (some ⟨vb,0,none⟩) 1 1] w (Ja3 w0 l r vb (A++f::B) f):=by
  obtain⟨i0,hi0,hz0,hzs,hzb⟩:=info_parts J43
  have hg:=hS.own.head;have hv:=hS.own.tail.head;have hlA:=K7 A;have hlB:=K7 B;have hold:(Builtin.firstCells i0.size A.length (.slice (some ⟨g,0,none⟩) A.length cap)).run Tryz.prog w.drew= .ok (J9 A).toArray w.drew:=by
   rw[hzs];refine run_firstCells_some w.drew 2 A.length ⟨g,0,none⟩ A.length cap (J9 A) hlA (fun j v hj=>?_)
   have hjl:j<(J9 A).length:=(List.getElem?_eq_some_iff.1 hj).1;rw[J0i,J2 hS.drew.own.head,List.getElem?_toArray,Nat.zero_add,J0t,List.append_assoc,List.getElem?_append_left hjl,hj]
  have hik:A.length+(B.length+1)=A.length+B.length+1:=by omega
  have hrz:∀k ty,k=(B.length:Int)+1->(Builtin.append_ #[57,3] ty #[.slice (some ⟨g,0,none⟩) A.length cap,.int .i64 k]).run Tryz.prog w=
   .ok (.slice (some ⟨w.heap.size,0,none⟩) (A.length+B.length+1) (grownCap w (A.length+B.length+1) cap 93))
    (w.drew.alloc (.cells ((J9 A).toArray++Builtin.zeroCells (Value.agg #[.string ByteArray.empty,.string ByteArray.empty]).cells (B.length+1)++Builtin.zeroCells (Value.agg #[.string ByteArray.empty,.string ByteArray.empty]).cells (grownCap w (A.length+B.length+1) cap 93 - (A.length+B.length+1))) 93)):=fun k ty hk=>by
   have h:=Lib.run_append_grow_zeros w 57 3 ty 93 i0 _ .i64 .i64 Tryz.underlying57 Tryz.underlying3 hi0 hz0 (some ⟨g,0,none⟩) A.length cap (J9 A) hold (B.length+1) (by omega) (by omega) (by omega) (by omega) (by rw[hzb];omega)
    (by rw[hzb,hik];exact growslice_fits (by omega) (by omega))
   rw[hik] at h;rw[hk];exact h
  have hGn:=grownCap_ge w (A.length+B.length+1) cap 93;have hG63:=grownCap_le_maxLen w (A.length+B.length+1) cap 93 (by unfold maxLen;omega)
  generalize grownCap w (A.length+B.length+1) cap 93=G at hrz hGn hG63;obtain⟨Z,hZ,hZl⟩:∃Z:List Value,(J9 A).toArray++Builtin.zeroCells (Value.agg #[.string ByteArray.empty,.string ByteArray.empty]).cells (B.length+1)++Builtin.zeroCells (Value.agg #[.string ByteArray.empty,.string ByteArray.empty]).cells (G - (A.length+B.length+1))=(J9 A++Z).toArray/\Z.length=(G - A.length)*2:=by
   refine⟨(Builtin.zeroCells (Value.agg #[.string ByteArray.empty,.string ByteArray.empty]).cells (B.length+1)).toList++(Builtin.zeroCells (Value.agg #[.string ByteArray.empty,.string ByteArray.empty]).cells (G - (A.length+B.length+1))).toList,?_,?_⟩
   ·apply Array.toList_inj.1;simp
   ·rw[List.length_append,J69,J69]
    have:(Value.agg #[.string ByteArray.empty,.string ByteArray.empty]).cells.size=2:=rfl
    rw[this];omega
  rw[hZ] at hrz;clear hZ;have S1:=hS.drew.alloc (.cells (J9 A++Z).toArray 93);have hN:w.drew.heap.size=w.heap.size:=rfl;rw[hN] at S1;obtain⟨W1,hW1⟩:∃W1,W1=w.drew.alloc (.cells (J9 A++Z).toArray 93):=⟨_,rfl⟩
  rw[<-hW1] at S1 hrz;clear hW1;generalize w.heap.size=nb at S1 hrz;have hcp1:∀n ty dc,n=B.length+1->(Builtin.copy_ #[57,57] ty #[.slice (some ⟨nb,A.length*2,none⟩) n dc,.slice (some ⟨vb,0,none⟩) 1 1]).run Tryz.prog W1=
   .ok (goInt 1) (W1.setRow nb ((J9 A++Z).take (A.length*2)++[Value.string f.1,.string f.2]++(J9 A++Z).drop (A.length*2+2)).toArray):=fun n ty dc hn=>by
   have hmin:Nat.min 1 n=1:=by simp only[Nat.min_def];split<;>omega
   have:=J48 (P:=Tryz.prog) W1 57 57 ty 93 2 nb (A.length*2) n dc ⟨vb,0,none⟩ 1 1
    _ 93 [.string f.1,.string f.2] Tryz.underlying57 J8s S1.own.head (by rw[hmin];rfl) (by
     intro j u hu
     rw[J0i,J2 S1.own.tail.tail.head];simpa using hu) (by simp;omega) (by simp[Value.oneCell'])
   rw[hmin] at this;exact this
  have S2:J3 w0 l _ _:=(J3.put (w2:=W1.setRow nb ((J9 A++Z).take (A.length*2)++[Value.string f.1,.string f.2]++(J9 A++Z).drop (A.length*2+2)).toArray) S1 (by simp[World.setRow]) (setRow_heap W1 nb _ _ _ _ S1.own.head) (fun k hk=>setRow_other W1 nb k _ hk) rfl rfl).drew
  obtain⟨W2,hW2⟩:∃W2,W2=W1.setRow nb ((J9 A++Z).take (A.length*2)++[Value.string f.1,.string f.2]++(J9 A++Z).drop (A.length*2+2)).toArray:=⟨_,rfl⟩
  rw[<-hW2] at hcp1 S2;clear hW2;have e1:(A.length+1)*2=(J9 A).length+2:=by omega
  have e2:A.length*2=(J9 A).length:=by omega
  have hcp2:∀n n2 ty dc sc,n=B.length->n2=B.length->(Builtin.copy_ #[57,57] ty #[.slice (some ⟨nb,(A.length+1)*2,none⟩) n dc,.slice (some ⟨g,A.length*2,none⟩) n2 sc]).run Tryz.prog W2.drew=
   .ok (goInt B.length) (W2.drew.setRow nb (J9 (A++f::B)++Z.drop (2+(J9 B).length)).toArray):=fun n n2 ty dc sc hn hn2=>by
   have hmin:Nat.min n2 n=B.length:=by simp only[Nat.min_def];split<;>omega
   have:=J48 (P:=Tryz.prog) W2.drew 57 57 ty 93 2 nb ((A.length+1)*2) n dc ⟨g,A.length*2,none⟩ n2 sc
    _ 93 (J9 B) Tryz.underlying57 J8s S2.own.head (by rw[hmin];exact hlB) (by
     intro j u hu
     have hj:j<(J9 B).length:=(List.getElem?_eq_some_iff.1 hu).1;rw[J0i,J2 S2.own.tail.head,List.getElem?_toArray,J0t,List.append_assoc,List.getElem?_append_right (by omega),hlA,Nat.add_sub_cancel_left,List.getElem?_append_left hj,hu]) (by simp;omega) (J4b B)
   rw[hmin] at this;rw[this];congr 3
   have hl:=Jqg (J9 A) (J9 B) Z (.string f.1) (.string f.2) (by omega)
   rw[e1,e2,hl];simp[J0t,J9]
  have S3:=J3.put (w2:=W2.drew.setRow nb (J9 (A++f::B)++Z.drop (2+(J9 B).length)).toArray) S2 (by simp[World.setRow]) (setRow_heap W2.drew nb _ _ _ _ S2.own.head) (fun k hk=>setRow_other W2.drew nb k _ hk) rfl rfl
  have hfin:Hid (Ja3 w0 l r vb (A++f::B) f (.returned (.slice (some ⟨nb,0,none⟩) (A.length+B.length+1) G)) (W2.drew.setRow nb (J9 (A++f::B)++Z.drop (2+(J9 B).length)).toArray)):=by
   have hlen:(A++f::B).length=A.length+B.length+1:=by simp;omega
   refine⟨_,[(nb,.cells (J9 (A++f::B)++Z.drop (2+(J9 B).length)).toArray 93 (0,0))],rfl,?_,S3.less (List.Sublist.cons_cons _ (List.sublist_cons_self _ _))⟩
   rw[hlen];refine .laid nb _ G _ _ ?_ ?_ hGn hG63
   ·rw[K7,hlen]
   ·rw[List.length_drop,hZl];omega
  unfold maxLen at hG63;have hz1:¬((A.length:Int)=(A.length:Int)+(B.length:Int)):=by omega
  have hin:A.length<=A.length+B.length:=by omega
  have hb0:(cap:Int)<(A.length:Int)+(B.length:Int)+1:=by omega
  have hb1:(0:Int)<=(A.length:Int)+1:=by omega
  have hb2:¬(G=A.length+1):=by omega
  have hb3:(A.length:Int)<=(A.length:Int)+(B.length:Int)+1:=by omega
  have hb4:¬(cap=A.length):=by omega
  have hb4':¬(G=A.length):=by omega
  have hb5:(A.length:Int)+1<=(A.length:Int)+(B.length:Int)+1:=by omega
  have hb6:(0:Int)<=(A.length:Int)+(B.length:Int)+1:=by omega
  have htn:((A.length:Int)+1).toNat=A.length+1:=by omega
  have hsub:A.length+B.length+1 - A.length=B.length+1:=by omega
  have hsub2:A.length+B.length+1 - (A.length+1)=B.length:=by omega
  have hsub3:A.length+B.length - A.length=B.length:=by omega
  have hw1:IntKind.i64.wrap ((A.length:Int)+1)=(A.length:Int)+1:=IntWalk.i64_in _ (by omega)
  have hac:A.length<=cap:=by omega
  have hb7:(A.length:Int)<=(A.length:Int)+(B.length:Int):=by omega
  clear hS hg hv S1 S2 S3 hlA hlB e1 e2 hold hi0 hz0 hzs hzb hZl hN;go_enter Tryz.func202,Tryz.ntmps202;go_wp2_with (first
   |(at_builtin;refine J8 rfl _ _ 57 3 rfl _ _ rfl rfl (hrz _ _ (by omega)) ?_)
   |(at_builtin;refine J6r _ rfl _ _ 57 57 rfl _ _ rfl rfl (hcp1 _ _ _ rfl) ?_))
  go_region_law (refine J9h rfl _ _ 57 57 rfl (.slice (some ⟨nb,(A.length+1)*2,none⟩) B.length (G - (A.length+1))) (.slice (some ⟨g,A.length*2,none⟩) B.length (cap - A.length)) (by simp[Act.eval,Act.put]) (by simp[Act.eval,Act.put]) (hcp2 _ _ _ _ _ rfl rfl) ?_)
  go_wp2
  go_ret;exact hfin.out
theorem Jmh {sl:Hp} {v:Value} {fs:Fs} {i:Nat} (hS:J3 w0 l w (sl++((vb,.cells #[.string f.1,.string f.2] 93 (0,0))::r)))
 (hat:SliceHp 2 93 v fs.length (J9 fs) sl) (hB:fs.length<=1048576) (hi:i<=fs.length):
  Calls Tryz.prog 202 #[v,.int .i64 i,.slice (some ⟨vb,0,none⟩) 1 1] w (Ja3 w0 l r vb (fs.take i++f::fs.drop i) f):=by
  obtain⟨A,B,rfl,rfl⟩:∃A B,fs=A++B/\i=A.length:=⟨fs.take i,fs.drop i,(List.take_append_drop i fs).symm,by rw[List.length_take];omega⟩
  rw[List.take_left,List.drop_left];rcases Nat.eq_zero_or_pos B.length with hz|hz
  ·obtain rfl:=List.length_eq_zero_iff.1 hz
   rw[List.append_nil] at *;exact Jmi hS hat hB
  ·rw[List.length_append] at hB hi hat
   obtain⟨g,cap,rest,rfl,hc,hc2,rfl,hrest⟩:=hat.view (by omega)
   by_cases hr:A.length+B.length+1<=cap
   ·match rest,hrest with
    |[],h=>simp at h;omega
    |[_],h=>simp at h;omega
    |u1::u2::rest,hrest=>
     refine(Jjv hS hz hr hc2).mono ?_
     rintro e w' ⟨rfl,S⟩;have hl:(A++f::B).length=A.length+B.length+1:=by simp;omega
     refine⟨_,[(g,.cells (J9 (A++f::B)++rest).toArray 93 (0,0))],rfl,?_,S⟩
     rw[hl];refine .laid g _ cap _ _ (by rw[K7,hl]) ?_ hr hc2
     simp only[List.length_cons] at hrest;omega
   ·exact Jju hS hz hc (by omega) hB
end Go.Proofs.YtncbcaabanoeoaaGreatDoor
namespace Go.Proofs.YtncbcaabanoeoaaGreatDoor
variable {fs:Fs}
def fput (fs:Fs) (name text:ByteArray):Fs:=if has fs name then fs.set (pos fs name) (name,text) else fs.take (pos fs name)++(name,text)::fs.drop (pos fs name)
def fdel (fs:Fs) (name:ByteArray):Fs:=if has fs name then fs.eraseIdx (pos fs name) else fs
theorem Jez:∀(fs:Fs) (name:ByteArray),∀f∈fs.take (pos fs name),J2j f.1 name<0
 |[],_,f,h=>by simp at h
 |g::fs,name,f,h=>by
  have ih:=Jez fs name f;by_cases hc:J2j g.1 name<0
  ·have e:pos (g::fs) name=pos fs name+1:=by simp[pos,hc]
   rw[e,List.take_succ_cons,List.mem_cons] at h;rcases h with rfl|h
   ·exact hc
   ·exact ih h
  ·have e:pos (g::fs) name=0:=by simp[pos,hc]
   rw[e] at h;simp at h
theorem Jlz:∀(fs:Fs) (name:ByteArray) (f:ByteArray×ByteArray),fs[pos fs name]? =some f->¬J2j f.1 name<0
 |[],_,f,h=>by simp at h
 |g::fs,name,f,h=>by
  by_cases hc:J2j g.1 name<0
  ·have e:pos (g::fs) name=pos fs name+1:=by simp[pos,hc]
   rw[e,List.getElem?_cons_succ] at h;exact Jlz fs name f h
  ·have e:pos (g::fs) name=0:=by simp[pos,hc]
   rw[e] at h;simp at h;subst h;exact hc
theorem Jso (hr:J1z fs) (name:ByteArray):∀f∈fs.drop (pos fs name),¬J2j f.1 name<0:=by
 intro f hf
 obtain⟨i,hi⟩:=List.mem_iff_getElem?.1 hf
 rw[List.getElem?_drop] at hi;have hlt:=(List.getElem?_eq_some_iff.1 hi).1;obtain⟨g,hg⟩:∃g:ByteArray×ByteArray,fs[pos fs name]? =some g:=⟨fs[pos fs name]'(by omega),List.getElem?_eq_getElem _⟩
 have h0:=Jlz fs name g hg;cases i with
 |zero=>rw[Nat.add_zero,hg] at hi;injection hi with hi;subst hi;exact h0
 |succ i=>exact fun hn=>h0 (J75 (J94 hr (by omega) hg hi) hn)
theorem Jk5 (a:ByteArray):¬J2j a a<0:=by rw[Jg7];decide
theorem Jws {a b:ByteArray} (h:¬J2j a b<0) (hne:a≠b):J2j b a<0:=by
 rcases Jmw a b with h1|h1|h1
 ·omega
 ·exact absurd (Jov h1) hne
 ·rw[Jr8 a b,h1];decide
theorem Jwk (hr:J1z fs) (name:ByteArray):has fs name=true ↔ name∈fs.map Prod.fst:=by
 constructor
 ·intro h
  obtain⟨f,hf,hn,_⟩:=J7z h
  exact List.mem_map.2 ⟨f,List.mem_of_getElem? hf,hn⟩
 ·intro h
  obtain⟨f,hf,rfl⟩:=List.mem_map.1 h
  have hs:f∈fs.take (pos fs f.1)++fs.drop (pos fs f.1):=by rw[List.take_append_drop];exact hf
  rcases List.mem_append.1 hs with h1|h1
  ·exact absurd (Jez fs f.1 f h1) (Jk5 _)
  ·obtain⟨i,hi⟩:=List.mem_iff_getElem?.1 h1
   rw[List.getElem?_drop] at hi;have hlt:=(List.getElem?_eq_some_iff.1 hi).1;obtain⟨g,hg⟩:∃g:ByteArray×ByteArray,fs[pos fs f.1]? =some g:=⟨fs[pos fs f.1]'(by omega),List.getElem?_eq_getElem _⟩
   have h0:=Jlz fs f.1 g hg;cases i with
   |zero=>
    rw[Nat.add_zero,hg] at hi;injection hi with hi;subst hi
    simp[has,hg,Jg7]
   |succ i=>exact absurd (J94 hr (by omega) hg hi) h0
theorem Jyj (hr:J1z fs) {name:ByteArray} (h:has fs name=false):name∉fs.map Prod.fst:=by
 intro hm;rw[(Jwk hr name).2 hm] at h;cases h
theorem Jna {A B:Fs} {f:ByteArray×ByteArray} (hA:J1z A) (hB:J1z B) (h1:∀g∈A,J2j g.1 f.1<0) (h2:∀g∈B,J2j f.1 g.1<0):J1z (A++f::B):=by
 unfold J1z at *;rw[List.pairwise_append,List.pairwise_cons];refine⟨hA,⟨h2,hB⟩,fun a ha b hb=>?_⟩
 rcases List.mem_cons.1 hb with rfl|hb
 ·exact h1 a ha
 ·exact J75 (h1 a ha) (h2 b hb)
theorem J70 (fs:Fs) (name text:ByteArray):fput fs name text=fs.take (pos fs name)++(name,text)::fs.drop (pos fs name+if has fs name then 1 else 0):=by
 unfold fput;cases h:has fs name with
 |false=>simp
 |true=>
  obtain⟨f,hf,_,_⟩:=J7z h
  have hp:=(List.getElem?_eq_some_iff.1 hf).1;simp[List.set_eq_take_append_cons_drop,hp]
theorem J1z.sub {gs:Fs} (h:J1z fs) (s:gs.Sublist fs):J1z gs:=List.Pairwise.sublist s h
theorem Jm0 (hr:J1z fs) (name:ByteArray):∀g∈fs.drop (pos fs name+if has fs name then 1 else 0),J2j name g.1<0:=by
 intro g hg
 have hm:g∈fs.drop (pos fs name):=by
  refine(List.Sublist.subset ?_) hg
  rw[<-List.drop_drop];exact List.drop_sublist _ _
 refine Jws (Jso hr name g hm) fun e=>?_
 cases h:has fs name with
 |false=>
  exact Jyj hr h (List.mem_map.2 ⟨g,List.mem_of_mem_drop hm,e⟩)
 |true=>
  rw[h] at hg;obtain⟨f,hf,hn,_⟩:=J7z h
  obtain⟨i,hi⟩:=List.mem_iff_getElem?.1 hg
  rw[List.getElem?_drop] at hi;simp only[if_true] at hi;have:=J94 hr (by omega:pos fs name<pos fs name+1+i) hf hi
  rw[hn,e] at this;exact Jk5 _ this
theorem J1z.fput (hr:J1z fs) (name text:ByteArray):J1z (fput fs name text):=by
 rw[J70];exact Jna (hr.sub (List.take_sublist _ _)) (hr.sub (List.drop_sublist _ _)) (Jez fs name) (Jm0 hr name)
theorem J1z.fdel (hr:J1z fs) (name:ByteArray):J1z (fdel fs name):=by
 unfold Go.Proofs.YtncbcaabanoeoaaGreatDoor.fdel;split
 ·exact hr.sub (List.eraseIdx_sublist _ _)
 ·exact hr
theorem Jtt (fs:Fs) (name text:ByteArray):(fput fs name text).length=fs.length+if has fs name then 0 else 1:=by
 unfold fput;have:=Jud fs name
 cases has fs name<;>simp<;>omega
theorem Jqh (hr:J1z fs) {name:ByteArray} (h:has fs name=true):∃(A B:Fs) (text:ByteArray),fs=A++(name,text)::B/\pos fs name=A.length/\fdel fs name=A++B/\Jb5 fs name=text/\(∀t,fput fs name t=A++(name,t)::B):=by
 obtain⟨f,hf,hn,hg⟩:=J7z h
 obtain⟨hp,he⟩:=List.getElem?_eq_some_iff.1 hf
 refine⟨fs.take (pos fs name),fs.drop (pos fs name+1),f.2,?_,?_,?_,hg,fun t=>?_⟩
 ·have:(name,f.2)=fs[pos fs name]:=by rw[he,<-hn]
  rw[this,<-List.drop_eq_getElem_cons hp,List.take_append_drop]
 ·rw[List.length_take];omega
 ·simp[fdel,h,List.eraseIdx_eq_take_drop_succ]
 ·rw[J70,h];rfl
theorem Jk0 (fs:Fs) (name:ByteArray):(fdel fs name).length=fs.length - if has fs name then 1 else 0:=by
 unfold fdel;cases h:has fs name with
 |false=>simp
 |true=>
  obtain⟨f,hf,_,_⟩:=J7z h
  have hp:=(List.getElem?_eq_some_iff.1 hf).1;simp[List.length_eraseIdx,hp]
end Go.Proofs.YtncbcaabanoeoaaGreatDoor
