/-
value.Copy, value.List: of a list whose values can be copied: how many there are, and their texts.
-/
import Derived.Test.YtefjbegnlolgbaaGreatDoorQ21
set_option linter.unusedVariables false
set_option linter.unusedSimpArgs false
set_option maxRecDepth 100000
set_option maxHeartbeats 8000000
namespace Go.Proofs.YtefjbegnlolgbaaGreatDoor
open Go Go.RowKit
variable {w0 w:World}{c:Nat}
structure Elt where
 kd:Int
 tx:ByteArray
 nn:Int
 la:Option Addr
 ln:Nat
 lc:Nat
variable {l:List Elt}
def Ki (kd:Int) (tx:ByteArray) (nn:Int) (lv:Value):List Value:=[.int .i64 kd,.string tx,.int .i64 nn,.float .f64 0,.bool false,lv]
structure Jq4 (w:World) (g i:Nat) (a:Elt):Prop where
 c0:w.cell? ⟨g,i*6,none⟩=some (.int .i64 a.kd)
 c1:w.cell? ⟨g,i*6+1,none⟩=some (.string a.tx)
 c2:w.cell? ⟨g,i*6+2,none⟩=some (.int .i64 a.nn)
 c3:w.cell? ⟨g,i*6+3,none⟩=some (.float .f64 0)
 c4:w.cell? ⟨g,i*6+4,none⟩=some (.bool false)
 c5:w.cell? ⟨g,i*6+5,none⟩=some (.slice a.la a.ln a.lc)
def Jod (w0:World) (L:Hp) (kd:Int) (tx:ByteArray) (nn:Int) (e:Ending) (w':World):Prop:=∃la ln lc y,e= .returned (J3 kd tx nn (.slice la ln lc))/\J1 w0 [] w' (y++L)
def Jo4 (l:List Elt) (cs:List Value):Prop:=∀(i:Nat) (a:Elt),l[i]? =some a->cs[i*6]? =some (.int .i64 a.kd)/\cs[i*6+1]? =some (.string a.tx)
theorem Jo4.snoc {k:Nat} {a:Elt} {cs:List Value} (h:Jo4 (l.take k) cs) (hk:l[k]? =some a) (hc:cs.length=k*6) (lv:Value):Jo4 (l.take (k+1)) (cs++Ki a.kd a.tx a.nn lv):=by
 intro i b hb
 rw[List.take_add_one,hk] at hb;have hlt:=(List.getElem?_eq_some_iff.1 hk).1;have hl:(l.take k).length=k:=by rw[List.length_take];omega
 by_cases hi:i<k
 ·rw[List.getElem?_append_left (by omega)] at hb
  obtain⟨h1,h2⟩:=h i b hb
  rw[List.getElem?_append_left (by omega),List.getElem?_append_left (by omega)]
  exact⟨h1,h2⟩
 ·rw[List.getElem?_append_right (by omega),hl] at hb
  have hi0:i - k=0:=by
   have:=(List.getElem?_eq_some_iff.1 hb).1
   simp at this;omega
  obtain rfl:i=k:=by omega
  rw[Nat.sub_self] at hb;obtain rfl:a=b:=by simpa using hb
  rw[List.getElem?_append_right (by omega),List.getElem?_append_right (by omega),hc,Nat.sub_self,show i*6+1 - i*6=1 by omega]
  exact⟨rfl,rfl⟩
theorem Jpk {sl r:Hp} {va:Option Addr} {k:Nat} {cs:List Value} {kd:Int} {tx:ByteArray} {nn:Int} {a0:Option Addr} {n0 c0:Nat} {nb:Nat} (hS:J1 w0 [] w (sl++r)) (hsl:SliceHp 6 29 (.slice va k c) k cs sl) (hB:k<=1000000000) (hm:(nb,J1b kd tx nn (.slice a0 n0 c0))∈r):
 ∃va' c' w' sl',(Builtin.append_ #[27,27] 27 #[.slice va k c,.slice (some ⟨nb,0,none⟩) 1 1]).run Tryz.prog w= .ok (.slice va' (k+1) c') w'/\SliceHp 6 29 (.slice va' (k+1) c') (k+1) (cs++Ki kd tx nn (.slice a0 n0 c0)) sl'/\J1 w0 [] w' (sl'++r):=by
 have hh:=hS.own.right.at_ _ hm
 obtain⟨v',w',sl',hrun,hsl',S',_⟩:=J0c (P:=Tryz.prog) (ty:=27) Tryz.underlying27 Tryz.underlying27 Jcb rfl (by decide) hS hsl
  ⟨nb,0,none⟩ 1 1 (Ki kd tx nn (.slice a0 n0 c0)) rfl (by
   intro j u hu
   rw[J33,Nat.zero_add,J0 hh,<-hu];show(Ki kd tx nn (.slice a0 n0 c0)).toArray[j]? =(Ki kd tx nn (.slice a0 n0 c0))[j]?
   rw[List.getElem?_toArray]) (by simp[Ki,Value.oneCell']) (by omega) (by omega) (by unfold maxLen;omega)
 obtain⟨a',c',rfl,_,_⟩:=hsl'.form
 exact⟨a',c',w',sl',hrun,hsl',S'⟩
def Joc (w0:World) (L:Hp) (kind:Int) (text:ByteArray) (n:Int) (l:List Elt) (e:Ending) (w':World):Prop:=
 ∃va c cs sl y,e= .returned (J3 kind text n (.slice va l.length c))/\SliceHp 6 29 (.slice va l.length c) l.length cs sl/\Jo4 l cs/\J1 w0 [] w' (sl++(y++L))
theorem Jpa {L0:Hp} {g:Nat} (hS:J1 w0 [] w L0) (hB:l.length<=1000)
 (hin:∀(w':World) (x:Hp),J1 w0 [] w' (x++L0)->∀(i:Nat) (a:Elt),l[i]? =some a->Jq4 w' g i a)
 (hcp:∀(w':World) (x:Hp),J1 w0 [] w' (x++L0)->∀(i:Nat) (a:Elt),l[i]? =some a->Calls Tryz.prog 43 #[J3 a.kd a.tx a.nn (.slice a.la a.ln a.lc)] w' (Jod w0 (x++L0) a.kd a.tx a.nn)) (kind:Int) (text:ByteArray) (n:Int):
  Calls Tryz.prog 43 #[J3 kind text n (.slice (some ⟨g,0,none⟩) l.length c)] w (Joc w0 L0 kind text n l):=by
  have S1:=(hS.alloc (.cells #[.int .i64 kind,.string text,.int .i64 n,.float .f64 0,.bool false,.slice (some ⟨g,0,none⟩) l.length c] 29)).alloc J5;rw[World.size_alloc] at S1;obtain⟨hm2,hm0⟩:l.length<=1000/\True:=⟨hB,trivial⟩
  replace S1:=hid S1;clear hS;go_enter Tryz.func43,Tryz.ntmps43;unfold J3;go_wp2_with fail;generalize hw1:(w.alloc _).alloc _=w1;replace S1:J1 w0 [] w1 _:=hw1▸S1.out;clear hw1;generalize w.heap.size=b at S1⊢;have hm3:(l.length:Int)<=1000:=by omega
  obtain⟨m,hm⟩:∃m,l.length=m:=⟨_,rfl⟩
  rw[hm] at hm2 hm3 S1⊢;obtain⟨L,hL⟩:∃L:Hp,L=(b+1,J5)::(b,.cells #[.int .i64 kind,.string text,.int .i64 n,.float .f64 0,.bool false,.slice (some ⟨g,0,none⟩) m c] 29 (0,0))::L0:=⟨_,rfl⟩
  rw[<-hL] at S1
  have hto:Hid (∀(w':World) (x:Hp),J1 w0 [] w' (x++L)->∃x',J1 w0 [] w' (x'++L0)/\∀w2 y,J1 w0 [] w2 (y++(x'++L0))->J1 w0 [] w2 (y++(x++L))):=hid (fun w' x h=>by
   have e:x++L=(x++[(b+1,J5),(b,.cells #[.int .i64 kind,.string text,.int .i64 n,.float .f64 0,.bool false,.slice (some ⟨g,0,none⟩) m c] 29 (0,0))])++L0:=by rw[hL];simp
   rw[e] at h⊢;exact⟨_,h,fun _ _ h2=>h2⟩)
  have hbox:Hid (∀(w':World) (x:Hp),J1 w0 [] w' (x++L)->w'.heap[b]? =some (.cells #[.int .i64 kind,.string text,.int .i64 n,.float .f64 0,.bool false,.slice (some ⟨g,0,none⟩) m c] 29 (0,0))/\w'.heap[b+1]? =some J5):=hid (fun w' x hw=>by
   have:=hw.own.right
   rw[hL] at this;exact⟨this.tail.head,this.head⟩)
  replace hL:=hid hL;replace hin:=hid hin;replace hcp:=hid hcp;replace hm:=hid hm;have S0:Hid (J1 w0 [] w1 ([]++([]++L))):=hid S1;clear S1 hB;go_loopw [3,5,9] (fun s3 s5 s9 wr=>∃(k:Nat) (va':Option Addr) (c':Nat) (cs:List Value) (sl' y:Hp),s3= .slice va' k c'/\s9= .int .i64 k/\k<=m/\Hid (SliceHp 6 29 (.slice va' k c') k cs sl'/\Jo4 (l.take k) cs)/\Hid (J1 w0 [] wr (sl'++(y++L)))) (fun s3 s5 s9 wr=>(m - intOf s9).toNat)
  case atStart=>exact⟨0,none,0,[],[],[],rfl,rfl,Nat.zero_le _,hid ⟨.nil,fun i a h=>by simp at h⟩,S0⟩
  case round=>
   obtain⟨k,va',c',cs,sl',y,rfl,rfl,hk,hat,S2⟩:=hrel
   clear S0;by_cases hlt:k<m
   ·obtain⟨a,ha⟩:∃a,l[k]? =some a:=⟨l[k]'(by have:=hm.out;omega),List.getElem?_eq_getElem _⟩
    have S2a:J1 w0 [] wr ((sl'++y)++L):=by rw[List.append_assoc];exact S2.out
    obtain⟨x1,S2b,hb1⟩:=hto.out _ _ S2a
    obtain⟨kd,tx,nn,la,ln,lc⟩:=a
    obtain⟨c0,c1,c2,c3,c4,c5⟩:=hin.out wr x1 S2b k _ ha
    simp only at c0 c1 c2 c3 c4 c5
    have S3:=S2b.alloc (J1b kd tx nn (.slice la ln lc));have hcopy:=hcp.out _ ((wr.heap.size,J1b kd tx nn (.slice la ln lc))::x1) S3 k _ ha;simp only at hcopy
    unfold J3 at hcopy;replace hcopy:=hid hcopy;replace hb1:=hid hb1;clear S3 S2a S2b;replace ha:=hid ha;go_wp2_with fail;refine hcopy.out.mono ?_;rintro e w2 ⟨la2,ln2,lc2,y2,rfl,S4⟩;have S4a:J1 w0 [] w2 (sl'++((wr.heap.size,J1b kd tx nn (.slice la ln lc))::(y2++(y++L)))):=(hb1.out w2 (y2++[(wr.heap.size,J1b kd tx nn (.slice la ln lc))]) (by rw[List.append_assoc];exact S4)).permR (J2 fun f=>by simp only[SC];omega)
    have S5:=S4a.alloc (J1b kd tx nn (.slice la2 ln2 lc2));obtain⟨va2,c2',w4,sl2,hrun,hat2,S6⟩:=Jpk (nb:=w2.heap.size) (kd:=kd) (tx:=tx) (nn:=nn) (a0:=la2) (n0:=ln2) (c0:=lc2) (r:=(w2.heap.size,J1b kd tx nn (.slice la2 ln2 lc2))::(wr.heap.size,J1b kd tx nn (.slice la ln lc))::(y2++(y++L))) (S5.permR (J2 fun f=>by simp only[SC];omega)) hat.out.1 (by omega) (by simp)
    have S7:=hid (S6.pick (l2:=sl2++((y2++y)++L)) (m:=[(w2.heap.size,J1b kd tx nn (.slice la2 ln2 lc2)),(wr.heap.size,J1b kd tx nn (.slice la ln lc))]) (J2 fun f=>by simp only[SC];omega))
    replace hrun:=hid hrun;have htk:Hid (SliceHp 6 29 (.slice va2 (k+1) c2') (k+1) (cs++Ki kd tx nn (.slice la2 ln2 lc2)) sl2/\Jo4 (l.take (k+1)) (cs++Ki kd tx nn (.slice la2 ln2 lc2))):=hid ⟨hat2,hat.out.2.snoc ha.out hat.out.1.len _⟩;clear S4 S4a S5 S6 hcopy c0 c1 c2 c3 c4 c5 S2 hat hat2 hb1;unfold J3;go_wp2_with (at_builtin;refine Jh rfl _ _ _ _ rfl _ _ rfl rfl hrun.out ?_);go_roundw
    case rel=>exact⟨k+1,va2,c2',_,sl2,y2++y,rfl,rfl,hlt,htk,S7⟩
    case measure=>simp[intOf];omega
   ·obtain rfl:k=m:=by omega
    obtain⟨hb0,hb1⟩:=hbox.out wr (sl'++y) (by rw[List.append_assoc];exact S2.out)
    have x0:=J0 hb0 0;have x1:=J0 hb0 1;have x2:=J0 hb0 2;have x3:=J0 hb0 3;have x4:=J0 hb0 4;have x5:=J0 hb0 5;simp only[List.getElem?_toArray,List.getElem?_cons_zero,List.getElem?_cons_succ] at x0 x1 x2 x3 x4 x5;have xf:=fun j=>J6 hb0 j
    have hltb:=Jc hb0;obtain⟨⟨c0,hc0⟩,⟨c1,hc1⟩,⟨c2,hc2⟩,⟨c3,hc3⟩,⟨c4,hc4⟩,⟨c5,hc5⟩,fz,hlt2⟩:=Jl hb1
    have S3:=S2.out.permR (l2:=(b,.cells #[.int .i64 kind,.string text,.int .i64 n,.float .f64 0,.bool false,.slice (some ⟨g,0,none⟩) k c] 29 (0,0))::(b+1,J5)::(sl'++(y++L0))) (J2 fun f=>by
     rw[hL.out];simp only[SC];omega)
    have S4:=(S3.set 5 (.slice va' k c')).less (List.sublist_cons_self _ _);have S9:=hid (((((((S4.set 0 (.int .i64 kind)).set 1 (.string text)).set 2 (.int .i64 n)).set 3 (.float .f64 0)).set 4 (.bool false)).set 5 (.slice va' k c')).less (List.sublist_cons_self _ _));have hfull:Hid (SliceHp 6 29 (.slice va' k c') k cs sl'/\Jo4 l cs):=hid (by have:=hat.out;rw[<-hm.out,List.take_length] at this;rw[<-hm.out];exact this)
    clear S2 S3 S4 hb0 hb1 hat hin hcp hbox hto;go_wp2_with fail;refine bodyPost_ret (v:=J3 kind text n (.slice va' k c')) (by simp[results,Tryz.results43,go_sem,J3, *]<;>rfl) rfl ?_
    have e:=hm.out;unfold Joc;rw[e];exact⟨va',c',cs,sl',y,rfl,hfull.out.1,hfull.out.2,S9.out⟩
theorem Jpb {L0:Hp} {g:Nat} (hS:J1 w0 [] w L0) (hB:l.length<=1000)
 (hin:∀(w':World) (x:Hp),J1 w0 [] w' (x++L0)->∀(i:Nat) (a:Elt),l[i]? =some a->Jq4 w' g i a)
 (hcp:∀(w':World) (x:Hp),J1 w0 [] w' (x++L0)->∀(i:Nat) (a:Elt),l[i]? =some a->Calls Tryz.prog 43 #[J3 a.kd a.tx a.nn (.slice a.la a.ln a.lc)] w' (Jod w0 (x++L0) a.kd a.tx a.nn)):
  Calls Tryz.prog 25 #[.slice (some ⟨g,0,none⟩) l.length c] w (Joc w0 L0 5 ByteArray.empty 0 l):=by
  have S1:=hS.alloc J5;have e1:∀x:Hp,x++((w.heap.size,J5)::L0)=(x++[(w.heap.size,J5)])++L0:=fun x=>by simp
  have hcopy:=Jpa (c:=c) S1 hB (fun w' x h=>hin w' _ (by rw[e1] at h;exact h)) (fun w' x h i a ha=>by rw[e1] at h⊢;exact hcp w' _ h i a ha) 5 ByteArray.empty 0
  unfold J3 at hcopy;replace hcopy:=hid hcopy;obtain⟨m,hm⟩:∃m,l.length=m:=⟨_,rfl⟩
  rw[hm] at hcopy⊢;replace hm:=hid hm;clear hS S1 hin hcp e1 hB;go_enter Tryz.func25,Tryz.ntmps25;go_wp2_with fail;refine hcopy.out.mono ?_;rintro e w2 ⟨a2,cc,cs,sl2,y,rfl,hat,htx,S2⟩;generalize w.heap.size=b at S2⊢;have S3:=S2.permR (l2:=(b,J5)::(sl2++(y++L0))) (J2 fun f=>by simp only[SC];omega)
  obtain⟨⟨c0,hc0⟩,⟨c1,hc1⟩,⟨c2,hc2⟩,⟨c3,hc3⟩,⟨c4,hc4⟩,⟨c5,hc5⟩,fz,hlt2⟩:=Jl S3.own.head
  rw[hm.out] at hat⊢;have S9:=hid (((((((S3.set 0 (.int .i64 5)).set 1 (.string ByteArray.empty)).set 2 (.int .i64 0)).set 3 (.float .f64 0)).set 4 (.bool false)).set 5 (.slice a2 m cc)).less (List.sublist_cons_self _ _));replace hat:=hid hat;replace htx:=hid htx;clear S2 S3 hcopy;unfold J3;go_wp2_with fail;refine bodyPost_ret (v:=J3 5 ByteArray.empty 0 (.slice a2 m cc)) (by simp[results,Tryz.results25,go_sem,J3, *]<;>rfl) rfl ?_
  unfold Joc;rw[hm.out];exact⟨a2,cc,cs,sl2,y,rfl,hat.out,htx.out,S9.out⟩
end Go.Proofs.YtefjbegnlolgbaaGreatDoor
