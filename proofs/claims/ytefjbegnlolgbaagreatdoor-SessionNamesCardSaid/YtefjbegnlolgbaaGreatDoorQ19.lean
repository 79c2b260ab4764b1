/-
value.Copy, value.List: of a list whose values have no lists.
-/
import Derived.Test.YtefjbegnlolgbaaGreatDoorQ18
set_option linter.unusedVariables false
set_option linter.unusedSimpArgs false
set_option maxRecDepth 100000
set_option maxHeartbeats 8000000
namespace Go.Proofs.YtefjbegnlolgbaaGreatDoor
open Go Go.RowKit
variable {w w0:World}{l:List Lf}{sl r:Hp}{va:Option Addr}{c:Nat}
def J20 (a:Lf):List Value:=[.int .i64 a.kind,.string a.text,.int .i64 a.n,.float .f64 0,.bool false,.slice none 0 0]
def J1h (l:List Lf):List Value:=l.flatMap J20
theorem J7p (l:List Lf):(J1h l).length=l.length*6:=by
 induction l with
 |nil=>rfl
 |cons a l ih=>simp only[J1h,List.flatMap_cons,List.length_append,J20,List.length_cons,List.length_nil] at ih⊢;omega
theorem J48 (l:List Lf) (a:Lf):J1h (l++[a])=J1h l++J20 a:=by simp[J1h]
theorem J47:∀(l:List Lf) (i:Nat) (a:Lf),l[i]? =some a->∀j v,(J20 a)[j]? =some v->(J1h l)[i*6+j]? =some v
 |[],i,a,h,_,_,_=>by simp at h
 |t::l,0,a,h,j,v,hj=>by
  simp at h;subst h
  have hlt:j<(J20 t).length:=(List.getElem?_eq_some_iff.1 hj).1;show(J20 t++J1h l)[0*6+j]? =some v
  rw[List.getElem?_append_left (by omega)]
  simpa using hj
 |t::l,i+1,a,h,j,v,hj=>by
  have:=J47 l i a (by simpa using h) j v hj
  show(J20 t++J1h l)[(i+1)*6+j]? =some v
  have ht:(J20 t).length=6:=rfl;rw[List.getElem?_append_right (by omega),ht,show(i+1)*6+j - 6=i*6+j by omega]
  exact this
structure Jkb (w:World) (g i:Nat) (a:Lf):Prop where
 c0:w.cell? ⟨g,i*6,none⟩=some (.int .i64 a.kind)
 c1:w.cell? ⟨g,i*6+1,none⟩=some (.string a.text)
 c2:w.cell? ⟨g,i*6+2,none⟩=some (.int .i64 a.n)
 c3:w.cell? ⟨g,i*6+3,none⟩=some (.float .f64 0)
 c4:w.cell? ⟨g,i*6+4,none⟩=some (.bool false)
 c5:w.cell? ⟨g,i*6+5,none⟩=some (.slice none 0 0)
theorem Jm9 {g i:Nat} {a:Lf} {rest:List Value} {t:TypeId} (h:w.heap[g]? =some (.cells (J1h l++rest).toArray t (0,0))) (ha:l[i]? =some a):Jkb w g i a:=by
 have k:∀j v,(J20 a)[j]? =some v->w.cell? ⟨g,i*6+j,none⟩=some v:=fun j v hj=>by
  have h1:=J47 l i a ha j v hj;have hlt:=(List.getElem?_eq_some_iff.1 h1).1;rw[J0 h,List.getElem?_toArray,List.getElem?_append_left hlt,h1]
 exact⟨k 0 _ rfl,k 1 _ rfl,k 2 _ rfl,k 3 _ rfl,k 4 _ rfl,k 5 _ rfl⟩
theorem Jcb:(Tryz.prog.info? 29).map (fun i=>(i.zero,i.size,i.bytes))=some (some (.agg #[.int .i64 0,.string ByteArray.empty,.int .i64 0,.float .f64 0,.bool false,.slice none 0 0]),6,72):=by kernel_rfl
abbrev J3n (v:Value) (l:List Lf) (sl:Hp):Prop:=SliceHp 6 29 v l.length (J1h l) sl
def J66 (w0:World) (r:Hp) (kind:Int) (text:ByteArray) (n:Int) (l:List Lf) (e:Ending) (w':World):Prop:=
 ∃v sl,e= .returned (J3 kind text n v)/\J3n v l sl/\J1 w0 [] w' (sl++r)
theorem Jbw {k:Nat} {a:Lf} {nb:Nat} (hS:J1 w0 [] w (sl++r)) (hsl:J3n (.slice va k c) l sl) (hk:l.length=k) (hB:k<=1000000000) (hm:(nb,J24 a)∈r):
 ∃va' c' w' sl',(Builtin.append_ #[27,27] 27 #[.slice va k c,.slice (some ⟨nb,0,none⟩) 1 1]).run Tryz.prog w= .ok (.slice va' (k+1) c') w'/\J3n (.slice va' (k+1) c') (l++[a]) sl'/\J1 w0 [] w' (sl'++r):=by
 have hh:=hS.own.right.at_ _ hm
 obtain⟨v',w',sl',hrun,hsl',S',_⟩:=J0c (P:=Tryz.prog) (ty:=27) Tryz.underlying27 Tryz.underlying27 Jcb rfl (by decide) hS hsl
  ⟨nb,0,none⟩ 1 1 (J20 a) rfl (by
   intro j u hu
   rw[J33,Nat.zero_add,J0 hh,<-hu];show(J20 a).toArray[j]? =(J20 a)[j]?
   rw[List.getElem?_toArray]) (by simp[J20,Value.oneCell']) (by omega) (by rw[hk];omega) (by rw[hk];unfold maxLen;omega)
 obtain⟨a',c',rfl,_,_⟩:=hsl'.form
 rw[hk] at hrun hsl';refine⟨a',c',w',sl',hrun,?_,S'⟩
 show SliceHp 6 _ _ (l++[a]).length (J1h (l++[a])) sl'
 rw[List.length_append,J48,hk];exact hsl'
theorem J63 {m:Nat} (hS:J1 w0 [] w (sl++r)) (hsl:J3n (.slice va m c) l sl) (hB:l.length<=1000000) (kind:Int) (text:ByteArray) (n:Int):
 Calls Tryz.prog 43 #[J3 kind text n (.slice va m c)] w (J66 w0 (sl++r) kind text n l):=by
 obtain⟨a',c',hv,hc1,hc2⟩:=hsl.form
 obtain⟨rfl,rfl,rfl⟩:va=a'/\m=l.length/\c=c':=by injection hv with h1 h2 h3;exact⟨h1,h2,h3⟩
 clear hv;have S1:=(hS.alloc (.cells #[.int .i64 kind,.string text,.int .i64 n,.float .f64 0,.bool false,.slice va l.length c] 29)).alloc J5;rw[World.size_alloc] at S1;obtain⟨hm2,hm0⟩:l.length<=1000000/\True:=⟨hB,trivial⟩
 replace S1:=hid S1;clear hS;go_enter Tryz.func43,Tryz.ntmps43;unfold J3;go_wp2_with fail;generalize hw1:(w.alloc _).alloc _=w1;replace S1:J1 w0 [] w1 _:=hw1▸S1.out;clear hw1;generalize w.heap.size=b at S1⊢;obtain⟨L,hL⟩:∃L:Hp,L=(b+1,J5)::(b,.cells #[.int .i64 kind,.string text,.int .i64 n,.float .f64 0,.bool false,.slice va l.length c] 29 (0,0))::(sl++r):=⟨_,rfl⟩
 rw[<-hL] at S1
 have hin:∀(w':World) (x:Hp),J1 w0 [] w' (x++L)->Own w' (sl++r):=fun w' x h=>by
  have:=h.own.right
  rw[hL] at this;exact this.tail.tail
 replace hL:=hid hL;replace hin:=hid hin;have hm3:(l.length:Int)<=1000000:=by omega
 obtain⟨m,hm⟩:∃m,l.length=m:=⟨_,rfl⟩
 rw[hm] at hm2 hm3 hc1⊢;have S0:Hid (J1 w0 [] w1 ([]++L)):=hid S1;clear S1
 have hread:Hid (∀(k:Nat) (a:Lf),l[k]? =some a->∃g,va=some ⟨g,0,none⟩/\∀(w':World) (x:Hp),J1 w0 [] w' (x++L)->Jkb w' g k a):=hid (fun k a ha=>by
  have hlt:=(List.getElem?_eq_some_iff.1 ha).1;obtain⟨g,cap,rest,hv,_,_,hsl2,_⟩:=hsl.view (by omega)
  injection hv with h1 h2 h3
  refine⟨g,h1,fun w' x hw=>?_⟩
  have ho:=hin.out w' x hw;rw[hsl2] at ho;exact Jm9 ho.left.head ha)
 have hbox:Hid (∀(w':World) (x:Hp),J1 w0 [] w' (x++L)->w'.heap[b]? =some (.cells #[.int .i64 kind,.string text,.int .i64 n,.float .f64 0,.bool false,.slice va m c] 29 (0,0))/\w'.heap[b+1]? =some J5):=hid (fun w' x hw=>by
  have:=hw.own.right
  rw[hL.out,hm] at this;exact⟨this.tail.head,this.head⟩)
 clear hsl hin;go_loopw [3,5,9] (fun s3 s5 s9 wr=>∃(k:Nat) (va':Option Addr) (c':Nat) (sl':Hp),s3= .slice va' k c'/\s9= .int .i64 k/\k<=m/\Hid (J3n (.slice va' k c') (l.take k) sl')/\Hid (J1 w0 [] wr (sl'++L))) (fun s3 s5 s9 wr=>(m - intOf s9).toNat)
 case atStart=>exact⟨0,none,0,[],rfl,rfl,Nat.zero_le _,hid .nil,S0⟩
 case round=>
  obtain⟨k,va',c',sl',rfl,rfl,hk,hat,S2⟩:=hrel
  clear S0;by_cases hlt:k<m
  ·obtain⟨a,ha⟩:∃a,l[k]? =some a:=⟨l[k]'(by omega),List.getElem?_eq_getElem _⟩
   obtain⟨g,hva,hr⟩:=hread.out k a ha
   subst hva;obtain⟨c0,c1,c2,c3,c4,c5⟩:=hr wr sl' S2.out
   have S3:=S2.out.alloc (J24 a);have hcopy:=J62 S3 a.kind a.text a.n;unfold J3 at hcopy;replace hcopy:=hid hcopy;clear hr S3;replace ha:=hid ha;go_wp2_with fail;refine hcopy.out.mono ?_;rintro e w2 ⟨rfl,S4⟩;have S5:=S4.alloc (J24 a);obtain⟨va2,c2',w4,sl2,hrun,hat2,S6⟩:=Jbw (nb:=w2.heap.size) (a:=a) (r:=(w2.heap.size,J24 a)::(wr.heap.size,J24 a)::L) (S5.permR (J2 fun f=>by simp only[SC];omega)) hat.out (by rw[List.length_take];omega) (by omega) (by simp)
   have S7:=hid (S6.pick (l2:=sl2++L) (m:=[(w2.heap.size,J24 a),(wr.heap.size,J24 a)]) (J2 fun f=>by simp only[SC];omega))
   replace hrun:=hid hrun;have htk:Hid (J3n (.slice va2 (k+1) c2') (l.take (k+1)) sl2):=hid (by rw[List.take_add_one,ha.out];exact hat2)
   clear S4 S5 S6 hcopy c0 c1 c2 c3 c4 c5 S2 hat hat2;go_wp2_with (at_builtin;refine Jh rfl _ _ _ _ rfl _ _ rfl rfl hrun.out ?_);go_roundw
   case rel=>exact⟨k+1,va2,c2',sl2,rfl,rfl,hlt,htk,S7⟩
   case measure=>simp[intOf];omega
  ·obtain rfl:k=m:=by omega
   obtain⟨hb0,hb1⟩:=hbox.out wr sl' S2.out
   have x0:=J0 hb0 0;have x1:=J0 hb0 1;have x2:=J0 hb0 2;have x3:=J0 hb0 3;have x4:=J0 hb0 4;have x5:=J0 hb0 5;simp only[List.getElem?_toArray,List.getElem?_cons_zero,List.getElem?_cons_succ] at x0 x1 x2 x3 x4 x5;have xf:=fun j=>J6 hb0 j
   have hltb:=Jc hb0;obtain⟨⟨c0,hc0⟩,⟨c1,hc1⟩,⟨c2,hc2⟩,⟨c3,hc3⟩,⟨c4,hc4⟩,⟨c5,hc5⟩,fz,hlt2⟩:=Jl hb1
   have S3:=S2.out.permR (l2:=(b,.cells #[.int .i64 kind,.string text,.int .i64 n,.float .f64 0,.bool false,.slice va l.length c] 29 (0,0))::(b+1,J5)::(sl'++(sl++r))) (J2 fun f=>by
    rw[hL.out];simp only[SC];omega)
   have S4:=(S3.set 5 (.slice va' k c')).less (List.sublist_cons_self _ _);have S9:=hid (((((((S4.set 0 (.int .i64 kind)).set 1 (.string text)).set 2 (.int .i64 n)).set 3 (.float .f64 0)).set 4 (.bool false)).set 5 (.slice va' k c')).less (List.sublist_cons_self _ _));have hfull:Hid (J3n (.slice va' k c') l sl'):=hid (by have:=hat.out;rw[<-hm,List.take_length] at this;rw[<-hm];exact this)
   clear S2 S3 S4 hb0 hb1 hat hread hbox;go_wp2_with fail;refine bodyPost_ret (v:=J3 kind text n (.slice va' k c')) (by simp[results,Tryz.results43,go_sem,J3, *]<;>rfl) rfl ?_
   exact⟨_,sl',rfl,hfull.out,S9.out⟩
theorem Jb6 {m:Nat} (hS:J1 w0 [] w (sl++r)) (hsl:J3n (.slice va m c) l sl) (hB:l.length<=1000000):
 Calls Tryz.prog 25 #[.slice va m c] w (J66 w0 (sl++r) 5 ByteArray.empty 0 l):=by
 have S1:=(hS.alloc J5).permR (l2:=sl++((w.heap.size,J5)::r)) (J2 fun f=>by simp only[SC];omega)
 have hcopy:=J63 S1 hsl hB 5 ByteArray.empty 0;unfold J3 at hcopy;replace hcopy:=hid hcopy;obtain⟨a',c',hv,_,_⟩:=hsl.form
 clear hS S1 hsl;go_enter Tryz.func25,Tryz.ntmps25;go_wp2_with fail;refine hcopy.out.mono ?_;rintro e w2 ⟨v,sl2,rfl,hat,S2⟩;obtain⟨a2,cc,rfl,_,_⟩:=hat.form
 generalize w.heap.size=b at S2⊢;have S3:=S2.permR (l2:=(b,J5)::(sl2++(sl++r))) (J2 fun f=>by simp only[SC];omega)
 obtain⟨⟨c0,hc0⟩,⟨c1,hc1⟩,⟨c2,hc2⟩,⟨c3,hc3⟩,⟨c4,hc4⟩,⟨c5,hc5⟩,fz,hlt2⟩:=Jl S3.own.head
 have S9:=hid (((((((S3.set 0 (.int .i64 5)).set 1 (.string ByteArray.empty)).set 2 (.int .i64 0)).set 3 (.float .f64 0)).set 4 (.bool false)).set 5 (.slice a2 l.length cc)).less (List.sublist_cons_self _ _));replace hat:=hid hat;clear S2 S3 hcopy;unfold J3;go_wp2_with fail;refine bodyPost_ret (v:=J3 5 ByteArray.empty 0 (.slice a2 l.length cc)) (by simp[results,Tryz.results25,go_sem,J3, *]<;>rfl) rfl ?_
 exact⟨_,sl2,rfl,hat.out,S9.out⟩
end Go.Proofs.YtefjbegnlolgbaaGreatDoor
namespace Go.Proofs.YtefjbegnlolgbaaGreatDoor
open Go
variable {S:St}
theorem J87 {m:AL Itm} {k:ByteArray} {v:Itm}:J7 (Jk m k++[(k,v)]) k=some v:=by
 have h:J7 (Jk m k) k=none:=J86;simp only[J7,Option.map_eq_none_iff] at h;simp only[J7,List.find?_append,h];simp
theorem Jin (S:St) (key:ByteArray) (it:Itm) (keep:Bool):(S.lay key it keep).load<=S.load+2:=by
 have h:(Jk S.L key).length<=S.L.length:=List.length_filter_le _ _;simp only[St.load,St.lay,List.length_append,List.length_cons,List.length_nil];omega
theorem Jmk (hf:Fit S) (hT:J00 S) {key:ByteArray} {it:Itm} (hk:key.size<=512) (hr:J1c it) (hc:J0r key it<=S.bud) (keep:Bool) (now:Int):
 Fit (S.put key it keep now)/\J00 (S.put key it keep now)/\(S.put key it keep now).load<=S.load+2:=by
 have hc':J0r key it<=(S.due key now).bud:=by rw[Jbj];exact hc
 have hl:=(hf.due key now).lay (hT.due key now) hk hr hc' keep;have he:=Jd3 ((S.due key now).lay key it keep).L.length ((S.due key now).lay key it keep) key hl (Nat.le_refl _) ⟨it,J87,hc'⟩;refine⟨he.1,he.2.1,?_⟩
 show(((S.due key now).lay key it keep).evict _ key).load<=_
 rw[St.load_evict _ hl];have:=Jin (S.due key now) key it keep
 rw[St.load_due hf] at this;exact this
theorem Jgv {key:ByteArray} {it:Itm} (h:S.putE key it=0):key.size<=512/\¬(it.kind=1/\4096<it.text.size)/\J0r key it<=S.bud:=by
 unfold St.putE at h;split at h
 ·omega
 ·rename_i h1
  split at h
  ·omega
  ·omega
theorem Jl1 (hf:Fit S) (hT:J00 S) (key:ByteArray) (it:Itm) (hr:J1c it\/(it.kind=1/\it.fs=[])) (keep:Bool) (now:Int):
 Fit (S.putG key it keep now)/\J00 (S.putG key it keep now)/\(S.putG key it keep now).load<=S.load+2:=by
 unfold St.putG;split
 ·rename_i h
  obtain⟨h1,h2,h3⟩:=Jgv h
  refine Jmk hf hT h1 ?_ h3 keep now;rcases hr with hr|⟨ha,hb⟩
  ·exact hr
  ·exact .inl ⟨ha,by have:=fun h=>h2 ⟨ha,h⟩;omega,hb⟩
 ·exact⟨hf.due _ _,hT.due _ _,by rw[St.load_due hf];omega⟩
theorem Jgw (hf:Fit S) (hT:J00 S) (key s:ByteArray) (keep:Bool) (now:Int):
 Fit (S.putG key (J9 s) keep now)/\J00 (S.putG key (J9 s) keep now)/\(S.putG key (J9 s) keep now).load<=S.load+2:=Jl1 hf hT key _ (.inr ⟨rfl,rfl⟩) keep now
end Go.Proofs.YtefjbegnlolgbaaGreatDoor
namespace Go.Proofs.YtefjbegnlolgbaaGreatDoor
open Go Go.RowKit
def K0 (now n unit:Int):Int×Int:=
 if(9223372036854775807:Int).tdiv unit<n\/n<(-9223372036854775808:Int).tdiv unit then(0,111) else
 match J4k now (n*unit) with
 |none=>(0,111)
 |some t=>if t<0\/4611686018427387904<t then(0,111) else(t,0)
theorem Jk5 (now n:Int) (w:World) (h1: -9223372036854775808<=now/\now<=9223372036854775807) (h2: -9223372036854775808<=n/\n<=9223372036854775807):
 Calls Tryz.prog 169 #[.int .i64 now,.int .i64 n,.int .i64 1] w fun e w'=>e= .returned (.tuple #[.int .i64 (K0 now n 1).1,.int .i64 (K0 now n 1).2])/\w=w':=by
 have hadd:=hid (Jeb now n w h1 h2)
 have e1:K0 now n 1=(match J4k now n with
  |none=>(0,111)
  |some t=>if t<0\/4611686018427387904<t then(0,111) else(t,0)):=by
  unfold K0;rw[if_neg (by simp only[Int.tdiv_one];omega),Int.mul_one]
 obtain⟨T,hT⟩:∃T,T=K0 now n 1:=⟨_,rfl⟩
 rw[<-hT] at e1⊢;replace e1:=hid e1;clear hT;obtain⟨h3,h4⟩:=h2
 cases ha:J4k now n with
 |none=>
  rw[ha] at hadd e1;have hz:Hid (T=(0,111)):=hid e1.out;clear e1 ha;simp only[Jec,Option.isSome_none,Bool.false_eq_true,if_false,Option.getD_none] at hadd;go_enter Tryz.func169,Tryz.ntmps169;go_wp2_with fail;refine hadd.out.mono ?_;rintro e w2 ⟨rfl,rfl⟩;go_wp2_with fail;go_ret2;rw[hz.out];exact⟨rfl,rfl⟩
 |some t=>
  rw[ha] at hadd e1;simp only[Jec,Option.isSome_some,if_true,Option.getD_some] at hadd;simp only at e1
  clear ha;by_cases h5:t<0
  ·have hz:Hid (T=(0,111)):=hid (by rw[e1.out,if_pos (.inl h5)])
   clear e1;go_enter Tryz.func169,Tryz.ntmps169;go_wp2_with fail;refine hadd.out.mono ?_;rintro e w2 ⟨rfl,rfl⟩;go_wp2_with fail;go_ret2;rw[hz.out];exact⟨rfl,rfl⟩
  ·by_cases h6:4611686018427387904<t
   ·have hz:Hid (T=(0,111)):=hid (by rw[e1.out,if_pos (.inr h6)])
    clear e1;go_enter Tryz.func169,Tryz.ntmps169;go_wp2_with fail;refine hadd.out.mono ?_;rintro e w2 ⟨rfl,rfl⟩;go_wp2_with fail;go_ret2;rw[hz.out];exact⟨rfl,rfl⟩
   ·have hz:Hid (T=(t,0)):=hid (by rw[e1.out,if_neg (by omega)])
    clear e1;go_enter Tryz.func169,Tryz.ntmps169;go_wp2_with fail;refine hadd.out.mono ?_;rintro e w2 ⟨rfl,rfl⟩;go_wp2_with fail;go_ret2;rw[hz.out];exact⟨rfl,rfl⟩
theorem Jb9 (now n:Int) (w:World) (h1: -9223372036854775808<=now/\now<=9223372036854775807) (h2: -9223372036854775808<=n/\n<=9223372036854775807):
 Calls Tryz.prog 169 #[.int .i64 now,.int .i64 n,.int .i64 1000] w fun e w'=>e= .returned (.tuple #[.int .i64 (K0 now n 1000).1,.int .i64 (K0 now n 1000).2])/\w=w':=by
 obtain⟨T,hT⟩:∃T,T=K0 now n 1000:=⟨_,rfl⟩
 obtain⟨h3,h4⟩:=h2
 have d1:(9223372036854775807:Int).tdiv 1000=9223372036854775:=by decide
 have d2:(-9223372036854775808:Int).tdiv 1000= -9223372036854775:=by decide
 by_cases g1:9223372036854775<n
 ·have hz:Hid (T=(0,111)):=hid (by rw[hT];unfold K0;rw[d1,if_pos (.inl g1)])
  rw[<-hT];clear hT d1 d2;go_enter Tryz.func169,Tryz.ntmps169;go_wp2_with fail;go_ret2;rw[hz.out];exact⟨rfl,rfl⟩
 by_cases g2:n< -9223372036854775
 ·have hz:Hid (T=(0,111)):=hid (by rw[hT];unfold K0;rw[d2,if_pos (.inr g2)])
  rw[<-hT];clear hT d1 d2;go_enter Tryz.func169,Tryz.ntmps169;go_wp2_with fail;go_ret2;rw[hz.out];exact⟨rfl,rfl⟩
 have h5: -9223372036854775808<=n*1000:=by omega
 have h6:n*1000<=9223372036854775807:=by omega
 have hadd:=hid (Jeb now (n*1000) w h1 ⟨h5,h6⟩)
 have e1:K0 now n 1000=(match J4k now (n*1000) with
  |none=>(0,111)
  |some t=>if t<0\/4611686018427387904<t then(0,111) else(t,0)):=by
  unfold K0;rw[d1,d2,if_neg (by omega)]
 rw[<-hT] at e1⊢;replace e1:=hid e1;clear hT d1 d2;cases ha:J4k now (n*1000) with
 |none=>
  rw[ha] at hadd e1;have hz:Hid (T=(0,111)):=hid e1.out;clear e1 ha;simp only[Jec,Option.isSome_none,Bool.false_eq_true,if_false,Option.getD_none] at hadd;go_enter Tryz.func169,Tryz.ntmps169;go_wp2_with fail;refine hadd.out.mono ?_;rintro e w2 ⟨rfl,rfl⟩;go_wp2_with fail;go_ret2;rw[hz.out];exact⟨rfl,rfl⟩
 |some t=>
  rw[ha] at hadd e1;simp only[Jec,Option.isSome_some,if_true,Option.getD_some] at hadd;simp only at e1
  clear ha;by_cases h7:t<0
  ·have hz:Hid (T=(0,111)):=hid (by rw[e1.out,if_pos (.inl h7)])
   clear e1;go_enter Tryz.func169,Tryz.ntmps169;go_wp2_with fail;refine hadd.out.mono ?_;rintro e w2 ⟨rfl,rfl⟩;go_wp2_with fail;go_ret2;rw[hz.out];exact⟨rfl,rfl⟩
  ·by_cases h8:4611686018427387904<t
   ·have hz:Hid (T=(0,111)):=hid (by rw[e1.out,if_pos (.inr h8)])
    clear e1;go_enter Tryz.func169,Tryz.ntmps169;go_wp2_with fail;refine hadd.out.mono ?_;rintro e w2 ⟨rfl,rfl⟩;go_wp2_with fail;go_ret2;rw[hz.out];exact⟨rfl,rfl⟩
   ·have hz:Hid (T=(t,0)):=hid (by rw[e1.out,if_neg (by omega)])
    clear e1;go_enter Tryz.func169,Tryz.ntmps169;go_wp2_with fail;refine hadd.out.mono ?_;rintro e w2 ⟨rfl,rfl⟩;go_wp2_with fail;go_ret2;rw[hz.out];exact⟨rfl,rfl⟩
theorem J3s {w0 w:World} {l r:Hp} {ob j:Nat} {cs:Array Value} {t:TypeId} {v:Bool} (hS:J1 w0 l w ((ob,.cells cs t (0,0))::r)) (hv:cs[j]? =some (.bool v)):
 Calls Tryz.prog 217 #[.pointer (some ⟨ob,j,none⟩)] w fun e w'=>e= .returned (.bool (!v))/\J1 w0 l w' ((ob,.cells (cs.setIfInBounds j (.bool true)) t (0,0))::r):=by
 have c0:w.cell? ⟨ob,j,none⟩=some (.bool v):=by rw[J0 hS.own.head,hv]
 have fz:=J6 hS.own.head j;have hlt:=Jc hS.own.head;have S1:=hid (hS.set j (.bool true));clear hS hv;go_enter Tryz.func217,Tryz.ntmps217;go_wp2_with fail;go_ret;exact⟨rfl,S1.out⟩
end Go.Proofs.YtefjbegnlolgbaaGreatDoor
