/-
item.Put.
-/
import Derived.Lib.ItoaLen
import Derived.Lib.ItoaNum
import Derived.Lib.ParseIntB
import Derived.Lib.ParseIntBTie
import Derived.Test.YtefjbegnlolgbaaGreatDoorQ02
import Derived.Test.YtefjbegnlolgbaaGreatDoorQ03
set_option linter.unusedVariables false
set_option linter.unusedSimpArgs false
set_option maxRecDepth 100000
set_option maxHeartbeats 8000000
namespace Go.Proofs.YtefjbegnlolgbaaGreatDoor
open Go Go.RowKit
variable {w0 w:World}{l r L:Hp}{P:Program}
theorem Jaj (hS:J1 w0 l w r) {f:ByteArray×ByteArray} (h1:f.1.size<=512) (h2:f.2.size<=4096):
 Calls Tryz.prog 273 #[Jd6 f] w fun e w'=>e= .returned (.bool true)/\J1 w0 l w' r:=by
 refine(Jgc hS f).mono ?_
 rintro e w' ⟨rfl,S⟩;exact⟨by rw[decide_eq_true h1,decide_eq_true h2];rfl,S⟩
structure InW (w0:World) (l L:Hp) where
 w:World
 h:J1 w0 l w L
theorem J0q {id:Nat} {Q:Exit->Act->World->Prop} {a:Act} {ops:List Oper} (hS:J1 w0 l w L) (hm:P.follows .mixedOrders=true) (hB:Region.lexB .any ops.toArray=true)
 (h:Nonempty (InW w0 l L)->wpQuiet P ops.toArray (fun w'=>∃p:InW w0 l L,w'=p.w) (fun a'=>∀w',(∃p:InW w0 l L,w'=p.w)->Q .normal a' w') ops a):(Code.region id ops.toArray true).wp P Q a w:=
  wp_region_quiet (C:=fun w'=>∃p:InW w0 l L,w'=p.w) hm hB ⟨⟨w.drew,hS.drew⟩,rfl⟩ (by simpa using h ⟨⟨w,hS⟩⟩)
theorem J45 {ops:Array Oper} {C:World->Prop} {Q:Exit->Act->World->Prop} {a:Act} (h:∀w',J1 w0 l w' L->Q .normal a w'):
 wpQuiet P ops C (fun a'=>∀w',(∃p:InW w0 l L,w'=p.w)->Q .normal a' w') [] a:=wpQuiet_nil (fun _ ⟨p,hp⟩=>by rw[hp];exact h p.w p.h)
theorem Calls.inw {f:FuncId} {args:Array Value} {v:Value}
 (h:Calls P f args w fun e w'=>e= .returned v/\J1 w0 l w' L):Calls P f args w fun e w''=>e= .returned v/\∃p:InW w0 l L,w''=p.w:=
  h.mono fun _ w' ⟨he,hs⟩=>⟨he,⟨w',hs⟩,rfl⟩
theorem Jf0 {text:ByteArray} (hS:J1 w0 l w r) (h1:text.size<=4096):
 Calls Tryz.prog 218 #[J8 1 text (.slice none 0 0)] w fun e w'=>e= .returned (.bool true)/\J1 w0 l w' r:=by
 have hfin:=hid ((hS.alloc (.cells #[.int .i64 1,.string text,.slice none 0 0] 183)).less (List.sublist_cons_self _ _));have h2:(text.size:Int)<=4096:=by omega
 go_enter Tryz.func218,Tryz.ntmps218;unfold J8;go_wp2_with fail;go_ret;exact⟨rfl,hfin.out⟩
theorem Jez {text:ByteArray} (hS:J1 w0 l w r) (h1:4096<text.size):
 Calls Tryz.prog 218 #[J8 1 text (.slice none 0 0)] w fun e w'=>e= .returned (.bool false)/\J1 w0 l w' r:=by
 have hfin:=hid ((hS.alloc (.cells #[.int .i64 1,.string text,.slice none 0 0] 183)).less (List.sublist_cons_self _ _));have h2:¬(text.size:Int)<=4096:=by omega
 go_enter Tryz.func218,Tryz.ntmps218;unfold J8;go_wp2_with fail;go_ret;exact⟨rfl,hfin.out⟩
theorem J7x {g bb fb m:Nat} {fs:Fs} {rest:List Value} {f:ByteArray×ByteArray} {kind:Int} {text:ByteArray} {v:Value}
 (hS:J1 w0 l w ((fb,.cells #[.string f.1,.string f.2] 328 (0,0))::(bb,.cells #[.int .i64 kind,.string text,v] 183 (0,0))::(g,.cells (K9 fs++rest).toArray 328 (0,0))::r)) {p:ByteArray×ByteArray} (hp:fs[m]? =some p):
  w.cell? ⟨g,m*2,none⟩=some (.string p.1)/\w.cell? ⟨g,m*2+1,none⟩=some (.string p.2)/\w.cell? ⟨fb,0,none⟩=some (.string f.1)/\w.cell? ⟨fb,1,none⟩=some (.string f.2)/\w.cell? ⟨bb,2,none⟩=some v/\
   Hid (J1 w0 l w ((fb,.cells #[.string f.1,.string f.2] 328 (0,0))::(bb,.cells #[.int .i64 kind,.string text,v] 183 (0,0))::(g,.cells (K9 fs++rest).toArray 328 (0,0))::r)):=by
  have hb:=hS.own.tail.tail.head;have hcm:=J2t fs m p hp;have hlen:=J2i fs;have hm:=(List.getElem?_eq_some_iff.1 hp).1;refine⟨?_,?_,J0 hS.own.head 0,J0 hS.own.head 1,J0 hS.own.tail.head 2,hid hS⟩
  ·rw[J0 hb,List.getElem?_toArray,List.getElem?_append_left (by omega),Nat.mul_comm,hcm.1]
  ·rw[J0 hb,List.getElem?_toArray,List.getElem?_append_left (by omega),Nat.mul_comm,hcm.2]
theorem Jey {g cap:Nat} {fs:Fs} {rest:List Value} (hS:J1 w0 l w ((g,.cells (K9 fs++rest).toArray 328 (0,0))::r)) (hr:Jg1 fs) (h1:1<=fs.length) (h2:fs.length<=256)
 (hf:∀f∈fs,f.1.size<=512/\f.2.size<=4096):
  Calls Tryz.prog 218 #[J8 2 ByteArray.empty (.slice (some ⟨g,0,none⟩) fs.length cap)] w fun e w'=>e= .returned (.bool true)/\J1 w0 l w' ((g,.cells (K9 fs++rest).toArray 328 (0,0))::r):=by
  have S1:=hid (hS.alloc (.cells #[.int .i64 2,.string ByteArray.empty,.slice (some ⟨g,0,none⟩) fs.length cap] 183));replace hf:=hid hf;clear hS;go_enter Tryz.func218,Tryz.ntmps218;unfold J8;go_wp2_with fail;generalize hw1:w.alloc (.cells #[.int .i64 2,.string ByteArray.empty,.slice (some ⟨g,0,none⟩) fs.length cap] 183)=w1 at S1⊢;generalize w.heap.size=bb at S1⊢;clear hw1;go_loopw [24] (fun c wr=>∃k:Nat,k<=fs.length/\c= .int .i64 k/\Hid (J1 w0 l wr ((bb,.cells #[.int .i64 2,.string ByteArray.empty,.slice (some ⟨g,0,none⟩) fs.length cap] 183 (0,0))::(g,.cells (K9 fs++rest).toArray 328 (0,0))::r))) (fun c wr=>fs.length - (intOf c).toNat)
  case atStart=>exact⟨0,Nat.zero_le _,rfl,S1⟩
  case round=>
   obtain⟨k,hk,rfl,hS2⟩:=hrel
   by_cases hlt:k<fs.length
   ·obtain⟨f,hfk⟩:∃f:ByteArray×ByteArray,fs[k]? =some f:=⟨fs[k],List.getElem?_eq_getElem _⟩
    have hfr:=hf.out f (List.mem_of_getElem? hfk);have S3:=hS2.out.alloc (.cells #[.string f.1,.string f.2] 328);have hgl:=Jc hS2.out.own.tail.head;have hb:=hS2.out.own.tail.head;have hcm:=J2t fs k f hfk;have hlen:=J2i fs
    have b0:wr.cell? ⟨g,k*2,none⟩=some (.string f.1):=by
     rw[J0 hb,List.getElem?_toArray,List.getElem?_append_left (by omega),Nat.mul_comm,hcm.1]
    have b1:wr.cell? ⟨g,k*2+1,none⟩=some (.string f.2):=by
     rw[J0 hb,List.getElem?_toArray,List.getElem?_append_left (by omega),Nat.mul_comm,hcm.2]
    clear hb hcm hlen;replace S3:=hid S3;replace hfk:=hid hfk;replace hfr:=hid hfr;go_wp2_with fail;generalize hw2:wr.alloc (.cells #[.string f.1,.string f.2] 328)=w2 at S3⊢;generalize wr.heap.size=fb at S3⊢;clear hw2 b0 b1 hgl
    have hdone:Hid (∀w3,J1 w0 l w3 ((fb,.cells #[.string f.1,.string f.2] 328 (0,0))::(bb,.cells #[.int .i64 2,.string ByteArray.empty,.slice (some ⟨g,0,none⟩) fs.length cap] 183 (0,0))::(g,.cells (K9 fs++rest).toArray 328 (0,0))::r)->
     Hid (J1 w0 l w3 ((bb,.cells #[.int .i64 2,.string ByteArray.empty,.slice (some ⟨g,0,none⟩) fs.length cap] 183 (0,0))::(g,.cells (K9 fs++rest).toArray 328 (0,0))::r))):=fun w3 h=>hid (h.less (List.sublist_cons_self _ _))
    by_cases hk0:k=0
    ·have hgt:decide ((0:Int)<(k:Int))=false:=by simp[hk0]
     have hgt2:decide (0<k)=false:=by simp[hk0]
     replace hk0:=hid hk0;have x0:∀p:InW w0 l ((fb,.cells #[.string f.1,.string f.2] 328 (0,0))::(bb,.cells #[.int .i64 2,.string ByteArray.empty,.slice (some ⟨g,0,none⟩) fs.length cap] 183 (0,0))::(g,.cells (K9 fs++rest).toArray 328 (0,0))::r),p.w.cell? ⟨fb,0,none⟩=some (.string f.1):=fun p=>J0 p.h.own.head 0
     have x1:∀p:InW w0 l ((fb,.cells #[.string f.1,.string f.2] 328 (0,0))::(bb,.cells #[.int .i64 2,.string ByteArray.empty,.slice (some ⟨g,0,none⟩) fs.length cap] 183 (0,0))::(g,.cells (K9 fs++rest).toArray 328 (0,0))::r),p.w.cell? ⟨fb,1,none⟩=some (.string f.2):=fun p=>J0 p.h.own.head 1
     refine J0q S3.out (by kernel_rfl) (by kernel_rfl) (fun hne=>?_)
     repeat (go_big_quiet_step ((go_at_call 273;refine Calls.inw (Jaj (f:=f) (InW.h _) hfr.out.1 hfr.out.2))))
     refine J45 fun wq hq=>?_
     have hq':=hdone.out wq hq;clear x0 x1 hq hne;go_wp2_with fail;go_roundw
     case rel=>exact⟨k+1,by omega,by go_num,hq'⟩
     case measure=>simp[intOf];omega
    ·have hgt:decide ((0:Int)<(k:Int))=true:=by simp;omega
     have hgt2:decide (0<k)=true:=by simp;omega
     have hgt3:1<=k:=by omega
     obtain⟨q,hqk⟩:∃q:ByteArray×ByteArray,fs[k - 1]? =some q:=⟨fs[k - 1],List.getElem?_eq_getElem _⟩
     have hless:=Jl3 hr (show k - 1<k by omega) hqk hfk.out
     have hle:¬(0:Int)<=J9i q.1 f.1:=by omega
     have x0:∀p:InW w0 l ((fb,.cells #[.string f.1,.string f.2] 328 (0,0))::(bb,.cells #[.int .i64 2,.string ByteArray.empty,.slice (some ⟨g,0,none⟩) fs.length cap] 183 (0,0))::(g,.cells (K9 fs++rest).toArray 328 (0,0))::r),p.w.cell? ⟨fb,0,none⟩=some (.string f.1):=fun p=>J0 p.h.own.head 0
     have x1:∀p:InW w0 l ((fb,.cells #[.string f.1,.string f.2] 328 (0,0))::(bb,.cells #[.int .i64 2,.string ByteArray.empty,.slice (some ⟨g,0,none⟩) fs.length cap] 183 (0,0))::(g,.cells (K9 fs++rest).toArray 328 (0,0))::r),p.w.cell? ⟨fb,1,none⟩=some (.string f.2):=fun p=>J0 p.h.own.head 1
     have x2:∀p:InW w0 l ((fb,.cells #[.string f.1,.string f.2] 328 (0,0))::(bb,.cells #[.int .i64 2,.string ByteArray.empty,.slice (some ⟨g,0,none⟩) fs.length cap] 183 (0,0))::(g,.cells (K9 fs++rest).toArray 328 (0,0))::r),p.w.cell? ⟨bb,2,none⟩=some (.slice (some ⟨g,0,none⟩) fs.length cap):=fun p=>J0 p.h.own.tail.head 2
     have y0:∀p:InW w0 l ((fb,.cells #[.string f.1,.string f.2] 328 (0,0))::(bb,.cells #[.int .i64 2,.string ByteArray.empty,.slice (some ⟨g,0,none⟩) fs.length cap] 183 (0,0))::(g,.cells (K9 fs++rest).toArray 328 (0,0))::r),p.w.cell? ⟨g,(k - 1)*2,none⟩=some (.string q.1):=fun p=>(J7x p.h hqk).1
     have y1:∀p:InW w0 l ((fb,.cells #[.string f.1,.string f.2] 328 (0,0))::(bb,.cells #[.int .i64 2,.string ByteArray.empty,.slice (some ⟨g,0,none⟩) fs.length cap] 183 (0,0))::(g,.cells (K9 fs++rest).toArray 328 (0,0))::r),p.w.cell? ⟨g,(k - 1)*2+1,none⟩=some (.string q.2):=fun p=>(J7x p.h hqk).2.1
     replace hqk:=hid hqk;refine J0q S3.out (by kernel_rfl) (by kernel_rfl) (fun hne=>?_)
     repeat (go_big_quiet_step ((first
      |(go_at_call 273;refine Calls.inw (Jaj (f:=f) (InW.h _) hfr.out.1 hfr.out.2))
      |(go_at_call 274;refine Calls.inw (Jej (InW.h _) q f)))))
     refine J45 fun wq hq=>?_
     have hq':=hdone.out wq hq;clear x0 x1 x2 y0 y1 hq hne;go_wp2_with fail;go_roundw
     case rel=>exact⟨k+1,by omega,by go_num,hq'⟩
     case measure=>simp[intOf];omega
   ·obtain rfl:k=fs.length:=by omega
    obtain⟨_,c1,c2,_⟩:=J04 hS2.out.own.head
    have hs1:(1:Int)<=(fs.length:Int):=by omega
    have hs2:(fs.length:Int)<=256:=by omega
    have S3:=hid (hS2.out.less (List.sublist_cons_self _ _));go_wp2_with fail;go_ret;exact⟨rfl,S3.out⟩
end Go.Proofs.YtefjbegnlolgbaaGreatDoor
namespace Go.Proofs.YtefjbegnlolgbaaGreatDoor
open Go
def J5u (n:Int):ByteArray:=⟨(Lib.itoa n).toArray⟩
def J2n (s:ByteArray):Option Int:=match Lib.parseIntB 64 s.data.toList with
 | .ok v=>if J5u v=s then some v else none
 |_=>none
end Go.Proofs.YtefjbegnlolgbaaGreatDoor
namespace Go.Proofs.YtefjbegnlolgbaaGreatDoor
open Go Go.RowKit
variable {w0 w:World}{l:Hp}{rb mb i j:Nat}{o:Obj}
def Jbg (a b:Int):Int:=if a<b then -1 else if b<a then 1 else 0
def Jbh (a b:ByteArray):Int:=if Op.bytesLess a.toList b.toList=true then -1 else if a=b then 0 else 1
theorem Jek (a b:Int) (w:World):Calls Tryz.prog 443 #[.int .i64 a,.int .i64 b] w fun e w'=>e= .returned (.int .i64 (Jbg a b))/\w=w':=by
 unfold Jbg;by_cases h1:a<b
 ·rw[if_pos h1]
  go_enter Tryz.func443,Tryz.ntmps443;go_wp2
  go_ret;exact⟨rfl,rfl⟩
 ·rw[if_neg h1]
  by_cases h2:b<a
  ·rw[if_pos h2]
   go_enter Tryz.func443,Tryz.ntmps443;go_wp2
   go_ret;exact⟨rfl,rfl⟩
  ·rw[if_neg h2]
   go_enter Tryz.func443,Tryz.ntmps443;go_wp2
   go_ret;exact⟨rfl,rfl⟩
theorem Jel (a b:ByteArray) (w:World):Calls Tryz.prog 444 #[.string a,.string b] w fun e w'=>e= .returned (.int .i64 (Jbh a b))/\w=w':=by
 unfold Jbh;cases h1:Op.bytesLess a.toList b.toList with
 |true=>
  rw[if_pos rfl];go_enter Tryz.func444,Tryz.ntmps444;go_wp2
  go_ret;exact⟨rfl,rfl⟩
 |false=>
  rw[if_neg (by decide)]
  by_cases h2:a=b
  ·have h2':=Jc2 h2
   rw[if_pos h2];clear h2;go_enter Tryz.func444,Tryz.ntmps444;go_wp2
   go_ret;exact⟨rfl,rfl⟩
  ·have h2':=J6o h2
   rw[if_neg h2];clear h2;go_enter Tryz.func444,Tryz.ntmps444;go_wp2
   go_ret;exact⟨rfl,rfl⟩
def Jhz (x y:Int):Int:=if x=0 then y else x
theorem Jg6 (b:Nat) (x y:Int) (w:World) (h0:w.cell? ⟨b,0,none⟩=some (.int .i64 x)) (h1:w.cell? ⟨b,1,none⟩=some (.int .i64 y)):
 Calls Tryz.prog 442 #[.slice (some ⟨b,0,none⟩) 2 2] w fun e w'=>e= .returned (.int .i64 (Jhz x y))/\w=w':=by
 unfold Jhz;by_cases hx:x=0
 ·subst hx
  rw[if_pos rfl];by_cases hy:y=0
  ·subst hy
   go_enter Tryz.func442,Tryz.ntmps442;go_wp2
   refine wp_loop_rounds 3 ?_;rw[rounds_succ];go_wp2
   rw[rounds_succ];go_wp2
   rw[rounds_succ];go_wp2
   go_ret;exact⟨rfl,rfl⟩
  ·have hy':(y !=0)=true:=by simpa using hy
   go_enter Tryz.func442,Tryz.ntmps442;go_wp2
   refine wp_loop_rounds 2 ?_;rw[rounds_succ];go_wp2
   rw[rounds_succ];go_wp2
   go_ret;exact⟨rfl,rfl⟩
 ·have hx':(x !=0)=true:=by simpa using hx
  rw[if_neg hx];go_enter Tryz.func442,Tryz.ntmps442;go_wp2
  refine wp_loop_rounds 1 ?_;rw[rounds_succ];go_wp2
  go_ret;exact⟨rfl,rfl⟩
def J8z (t:Int) (k:ByteArray) (t':Int) (k':ByteArray):Int:=Jhz (Jbg t t') (Jbh k k')
theorem Jgq (t t':Int) (k k':ByteArray) (w:World):
 Calls Tryz.prog 441 #[.agg #[.int .i64 t,.string k],.agg #[.int .i64 t',.string k']] w fun e w'=>e= .returned (.int .i64 (J8z t k t' k'))/\J1 w [] w' []:=by
 have hci:=hid (Jek t t');have hcs:=hid (Jel k k');have hco:=hid (Jg6);unfold J8z;go_enter Tryz.func441,Tryz.ntmps441;go_wp2_with fail;generalize hx:Jbg t t'=x at *;generalize hy:Jbh k k'=y at *;replace hx:=hid hx;replace hy:=hid hy;have S1:=((J1.refl (Own.nil w)).alloc (.cells #[.int .i64 t,.string k] 336)).alloc (.cells #[.int .i64 t',.string k'] 336);have q1:=S1.own.tail.head;have q2:=S1.own.head;generalize hw1:(w.alloc (.cells #[.int .i64 t,.string k] 336)).alloc (.cells #[.int .i64 t',.string k'] 336)=w1 at S1 q1 q2⊢;clear hw1;rw[World.size_alloc] at q2;have a0:=J0 q1 0;have a1:=J0 q1 1;have b0:=J0 q2 0;have b1:=J0 q2 1;simp only[List.getElem?_toArray,List.getElem?_cons_succ,List.getElem?_cons_zero] at a0 a1 b0 b1;replace S1:=hid (S1.less (List.nil_sublist _));clear q1 q2;refine wp_region_still_tail 10 (by kernel_rfl) (by kernel_rfl) ?_
 simp only[List.take_succ_cons,List.take_zero,List.drop_succ_cons,List.drop_zero];still_step
 still_step
 still_step
 still_step
 still_call (J7a (hci.out _))
 still_step
 still_step
 still_step
 still_step
 still_call (J7a (hcs.out _))
 refine wpStill_nil ?_;go_wp2_with fail;refine(hco.out _ x y _ (by simp[go_sem]) (by simp[go_sem])).mono ?_
 rintro e w' ⟨rfl,rfl⟩;go_wp2_with fail;go_ret;exact⟨by rw[hx.out,hy.out];rfl,(S1.out.drew.alloc _).less (List.nil_sublist _)⟩
abbrev ptr (b:Nat):Value:=.pointer (some ⟨b,0,none⟩)
theorem Jky (b p n:Nat) (x y:Value) (w:World) (h1:w.cell? ⟨b,1,none⟩=some (ptr p)) (h2:w.cell? ⟨b,2,none⟩=some (ptr n)) (hp:w.cell? ⟨p,2,none⟩=some x) (hn:w.cell? ⟨n,1,none⟩=some y)
 (fp:w.frozen? ⟨p,2,none⟩=false) (fn:w.frozen? ⟨n,1,none⟩=false):
  Calls Tryz.prog 177 #[.pointer (some ⟨b,0,none⟩)] w fun e w'=>e= .returned (.tuple #[])/\w'=((w.setCell ⟨p,2,none⟩ (ptr n)).setCell ⟨n,1,none⟩ (ptr p)).drew:=by
  go_enter Tryz.func177,Tryz.ntmps177;go_wp2_with fail;go_region
  all_goals go_end0
  all_goals exact⟨rfl,rfl⟩
theorem Jim (rb b q:Nat) (x1 x2 y:Value) (w:World) (hne:b≠rb) (hnq:b≠q) (hb1:w.cell? ⟨b,1,none⟩=some x1) (hb2:w.cell? ⟨b,2,none⟩=some x2) (hr:w.cell? ⟨rb,1,none⟩=some (ptr q)) (hq:w.cell? ⟨q,2,none⟩=some y)
 (f1:w.frozen? ⟨b,1,none⟩=false) (f2:w.frozen? ⟨b,2,none⟩=false) (fq:w.frozen? ⟨q,2,none⟩=false) (fr:w.frozen? ⟨rb,1,none⟩=false):
  Calls Tryz.prog 191 #[.pointer (some ⟨rb,0,none⟩),.pointer (some ⟨b,0,none⟩)] w fun e w'=>e= .returned (.tuple #[])/\
   w'=((((w.setCell ⟨b,1,none⟩ (ptr q)).setCell ⟨b,2,none⟩ (ptr rb)).setCell ⟨q,2,none⟩ (ptr b)).setCell ⟨rb,1,none⟩ (ptr b)).drew.drew:=by
  go_enter Tryz.func191,Tryz.ntmps191;go_wp2_with fail;go_region
  all_goals go_wp2_with fail
  all_goals go_region
  all_goals go_end0
  all_goals exact⟨rfl,rfl⟩
abbrev Nd:=Nat×ByteArray
def hd (ns:List Nd) (r:Nat):Nat:=match ns with
 |[]=>r
 |p::_=>p.1
def lst (ns:List Nd) (r:Nat):Nat:=match ns with
 |[]=>r
 |p::ns=>lst ns p.1
abbrev Jip (k:ByteArray) (a n:Nat):Array Value:=#[.string k,ptr a,ptr n]
abbrev J0i (k:ByteArray) (a n:Nat):Obj:=.cells (Jip k a n) 107 (0,0)
def Js (prev:Nat) (ns:List Nd) (fin:Nat):Hp:=match ns with
 |[]=>[]
 |p::ns=>(p.1,J0i p.2 prev (hd ns fin))::Js p.1 ns fin
abbrev Jj7 (a n mb:Nat):Array Value:=#[.string ByteArray.empty,ptr a,ptr n,.map (some mb)]
abbrev J13 (a n mb:Nat):Obj:=.cells (Jj7 a n mb) 110 (0,0)
def J0a (rb mb:Nat) (o:Obj) (ns:List Nd):Hp:=(rb,J13 (lst ns rb) (hd ns rb) mb)::(mb,o)::Js rb ns rb
def J4v (p:Nd):ByteArray×Value:=(p.2,ptr p.1)
def Jj (l:Hp) (rb:Nat) (ks:List ByteArray):Prop:=
 ∃mb o ns m,l=J0a rb mb o ns/\ks=ns.map Prod.snd/\Kz o m/\m.Perm (ns.map J4v)/\ks.Nodup
theorem J98 (r:Nat):hd [] r=r:=rfl
theorem J44 (p:Nd) (a:List Nd) (r:Nat):hd (p::a) r=p.1:=rfl
theorem Jfn (r:Nat):lst [] r=r:=rfl
theorem J36 (p:Nd) (a:List Nd) (r:Nat):lst (p::a) r=lst a p.1:=rfl
theorem J77 (x y:Nat):Js x [] y=[]:=rfl
theorem J2e (x y:Nat) (p:Nd) (a:List Nd):Js x (p::a) y=(p.1,J0i p.2 x (hd a y))::Js p.1 a y:=rfl
theorem J49 (a b:List Nd) (r:Nat):lst (a++b) r=lst b (lst a r):=by
 induction a generalizing r with
 |nil=>rfl
 |cons p a ih=>exact ih p.1
theorem J3p (a b:List Nd) (r:Nat):hd (a++b) r=hd a (hd b r):=by
 cases a<;>rfl
theorem J2u (prev fin:Nat) (a b:List Nd):Js prev (a++b) fin=Js prev a (hd b fin)++Js (lst a prev) b fin:=by
 induction a generalizing prev with
 |nil=>rfl
 |cons p a ih=>simp only[List.cons_append,Js,ih,J3p,lst]
theorem Jaq (prev fin:Nat) (a b:List Nd) (p:Nd):Js prev (a++p::b) fin=Js prev a p.1++(p.1,J0i p.2 (lst a prev) (hd b fin))::Js p.1 b fin:=J2u prev fin a (p::b)
theorem Jau {c:Hp} {a:List Nd} {x y z:Nat}
 (h:J1 w0 l w ((rb,J13 y (hd a x) mb)::(mb,o)::(Js rb a x++c))):
  J1 w0 l (w.setCell ⟨lst a rb,2,none⟩ (ptr z)) ((rb,J13 y (hd a z) mb)::(mb,o)::(Js rb a z++c)):=by
  rcases List.eq_nil_or_concat a with rfl|⟨a,p,rfl⟩
  ·exact h.set 2 (ptr z)
  ·rw[List.concat_eq_append] at h⊢
   rw[J2u,J3p] at h⊢;rw[J49]
   have h2:J1 w0 l w (((rb,J13 y (hd a p.1) mb)::(mb,o)::Js rb a p.1)++(p.1,J0i p.2 (lst a rb) x)::c):=by
    simpa[J2e,J77,J44,J98] using h
   have h3:=h2.setIn 2 (ptr z);simpa[J2e,J77,J44,J98,J36,Jfn] using h3
theorem Jf1 {c:Hp} {b:List Nd} {x y z:Nat}
 (h:J1 w0 l w ((rb,J13 (lst b x) y mb)::(mb,o)::(c++Js x b rb))):
  J1 w0 l (w.setCell ⟨hd b rb,1,none⟩ (ptr z)) ((rb,J13 (lst b z) y mb)::(mb,o)::(c++Js z b rb)):=by
  cases b with
  |nil=>exact h.set 1 (ptr z)
  |cons p b=>
   have h2:J1 w0 l w (((rb,J13 (lst b p.1) y mb)::(mb,o)::c)++(p.1,J0i p.2 x (hd b rb))::Js p.1 b rb):=by
    simpa[J2e,J36] using h
   have h3:=h2.setIn 1 (ptr z);simpa[J2e,J36,J44] using h3
theorem Jj6 {a b:List Nd} {p:Nd} (h:J1 w0 l w (J0a rb mb o (a++p::b))):
 J1 w0 l ((w.setCell ⟨lst a rb,2,none⟩ (ptr (hd b rb))).setCell ⟨hd b rb,1,none⟩ (ptr (lst a rb))) ((p.1,J0i p.2 (lst a rb) (hd b rb))::J0a rb mb o (a++b)):=by
 have e1:J0a rb mb o (a++p::b)=(rb,J13 (lst b p.1) (hd a p.1) mb)::(mb,o)::(Js rb a p.1++((p.1,J0i p.2 (lst a rb) (hd b rb))::Js p.1 b rb)):=by
  simp only[J0a,Jaq,J49,J3p,J36,J44]
 rw[e1] at h;have h2:=Jau (z:=hd b rb) h;rw[show Js rb a (hd b rb)++((p.1,J0i p.2 (lst a rb) (hd b rb))::Js p.1 b rb)=(Js rb a (hd b rb)++[(p.1,J0i p.2 (lst a rb) (hd b rb))])++Js p.1 b rb by simp] at h2
 have h4:=Jf1 (z:=lst a rb) h2;refine h4.permR ?_
 have e:J0a rb mb o (a++b)=(rb,J13 (lst b (lst a rb)) (hd a (hd b rb)) mb)::(mb,o)::(Js rb a (hd b rb)++Js (lst a rb) b rb):=by
  simp only[J0a,J2u,J49,J3p]
 rw[e];refine List.Perm.trans ?_ (List.perm_middle (l₁:=[(rb,_),(mb,o)]));refine List.Perm.cons _ (List.Perm.cons _ ?_);rw[List.append_assoc];exact List.perm_middle
theorem Jh0 {ns:List Nd} {b:Nat} {k:ByteArray} {x1 x2:Value} (h:J1 w0 l w ((b,.cells #[.string k,x1,x2] 107 (0,0))::J0a rb mb o ns)):
 J1 w0 l ((((w.setCell ⟨b,1,none⟩ (ptr (lst ns rb))).setCell ⟨b,2,none⟩ (ptr rb)).setCell ⟨lst ns rb,2,none⟩ (ptr b)).setCell ⟨rb,1,none⟩ (ptr b)) (J0a rb mb o (ns++[(b,k)])):=by
 have h1:=(h.set 1 (ptr (lst ns rb))).set 2 (ptr rb)
 have h2:=h1.permR (l2:=(rb,J13 (lst ns rb) (hd ns rb) mb)::(mb,o)::(Js rb ns rb++[(b,J0i k (lst ns rb) rb)]))
  (List.Perm.trans (List.perm_append_comm (l₁:=[_]) (l₂:=(rb,J13 (lst ns rb) (hd ns rb) mb)::(mb,o)::Js rb ns rb)) (List.Perm.of_eq (by simp)))
 have h3:=Jau (z:=b) h2;have h4:=h3.set 1 (ptr b)
 have e:J0a rb mb o (ns++[(b,k)])=(rb,J13 b (hd ns b) mb)::(mb,o)::(Js rb ns b++[(b,J0i k (lst ns rb) rb)]):=by
  simp only[J0a,J2u,J49,J3p,J2e,J77,J44,J36,J98,Jfn]
 rw[e];exact h4
abbrev J1i (b:Nat):Value:=.pointer (some ⟨b,0,none⟩)
structure En where
 b:Nat
 t:Int
 key:ByteArray
variable {es:List En}
abbrev J0y (e:En) (i:Nat):Obj:=.cells #[.int .i64 e.t,.string e.key,.int .i64 i] 338 (0,0)
def Kp (e:En):Value:=J1i e.b
def K7 (i:Nat) (es:List En):Hp:=match es with
 |[]=>[]
 |e::es=>(e.b,J0y e i)::K7 (i+1) es
theorem J15 (i:Nat) (a b:List En):K7 i (a++b)=K7 i a++K7 (i+a.length) b:=by
 induction a generalizing i with
 |nil=>rfl
 |cons e a ih=>simp only[List.cons_append,K7,ih,List.length_cons,Nat.add_assoc,Nat.add_comm 1 a.length]
theorem Jik (i:Nat) (es:List En):keys (K7 i es)=es.map En.b:=by
 induction es generalizing i with
 |nil=>rfl
 |cons e es ih=>simp[K7,ih]
def J4n (a b:En):Bool:=decide (J8z a.t a.key b.t b.key<0)
abbrev J1y (rv:Value) (mb:Nat):Obj:=.cells #[rv,.map (some mb)] 115 (0,0)
def Jp (xb mb:Nat) (rv:Value) (sl:Hp) (es:List En):Hp:=(xb,J1y rv mb)::(sl++K7 0 es)
structure Ky (rv:Value) (sl:Hp) (es:List En):Prop where
 sl:SliceHp 1 331 rv es.length (es.map Kp) sl
theorem J90 {r1 r2:Hp} (h:Own w (r1++(K7 0 es++r2))) (hi:i<es.length):w.heap[(es[i]).b]? =some (J0y es[i] i):=by
 have e:es=es.take i++es[i]::es.drop (i+1):=by
  rw[<-List.drop_eq_getElem_cons hi,List.take_append_drop]
 have e2:K7 0 es=K7 0 (es.take i)++((es[i]).b,J0y es[i] i)::K7 (i+1) (es.drop (i+1)):=by
  conv=>lhs;rw[e]
  rw[J15];have:(es.take i).length=i:=by simp;omega
  rw[this];simp[K7]
 refine h.at_ ((es[i]).b,_) ?_;rw[e2];simp
theorem Jio (g n cap i j:Nat) (x y:En) (w:World) (hi:i<n) (hj:j<n) (hc:n<=cap) (hcap:cap<=maxLen) (ci:w.cell? ⟨g,i,none⟩=some (J1i x.b)) (cj:w.cell? ⟨g,j,none⟩=some (J1i y.b))
 (x0:w.cell? ⟨x.b,0,none⟩=some (.int .i64 x.t)) (x1:w.cell? ⟨x.b,1,none⟩=some (.string x.key)) (y0:w.cell? ⟨y.b,0,none⟩=some (.int .i64 y.t)) (y1:w.cell? ⟨y.b,1,none⟩=some (.string y.key)):
  Calls Tryz.prog 439 #[.slice (some ⟨g,0,none⟩) n cap,.int .i64 i,.int .i64 j] w fun e w'=>e= .returned (.bool (J4n x y))/\J1 w [] w' []:=by
  have hb:n<=9223372036854775807:=by unfold maxLen at hcap;omega
  clear hcap;have hord:=hid (Jgq x.t y.t x.key y.key);have hst:=hid (J1.refl (Own.nil w));unfold J4n;go_enter Tryz.func439,Tryz.ntmps439;go_wp2_with fail;go_still_tail 14,(by kernel_rfl)
  go_wp2_with fail;refine(hord.out _).mono ?_
  rintro e w' ⟨rfl,S1⟩;replace S1:=hid (hst.out.drew.trans S1);go_wp2_with fail;go_ret;exact⟨rfl,S1.out⟩
theorem Jjk (g n cap i j:Nat) (x y:Nat) (vx vy:Value) (w:World) (hi:i<n) (hj:j<n) (hij:i<j) (hc:n<=cap) (hcap:cap<=maxLen) (ci:w.cell? ⟨g,i,none⟩=some (J1i x)) (cj:w.cell? ⟨g,j,none⟩=some (J1i y))
 (x2:w.cell? ⟨x,2,none⟩=some vx) (y2:w.cell? ⟨y,2,none⟩=some vy) (fi:∀a,w.frozen? ⟨g,a,none⟩=false) (fx:w.frozen? ⟨x,2,none⟩=false) (fy:w.frozen? ⟨y,2,none⟩=false)
 (hgx:g≠x) (hgy:g≠y) (hxy:x≠y):
  Calls Tryz.prog 440 #[.slice (some ⟨g,0,none⟩) n cap,.int .i64 i,.int .i64 j] w fun e w'=>e= .returned (.tuple #[])/\
   w'=((((w.setCell ⟨g,i,none⟩ (J1i y)).setCell ⟨g,j,none⟩ (J1i x)).setCell ⟨y,2,none⟩ (.int .i64 i)).setCell ⟨x,2,none⟩ (.int .i64 j)).drew.drew:=by
  have hb:n<=9223372036854775807:=by unfold maxLen at hcap;omega
  clear hcap;go_enter Tryz.func440,Tryz.ntmps440;go_wp2_with fail;go_region
  all_goals go_wp2_with fail
  all_goals go_region
  all_goals go_wp2_with fail
  all_goals go_end0
  all_goals exact⟨rfl,rfl⟩
theorem J8l {α:Type} (A C:List α) (x v:α):(A++x::C).set A.length v=A++v::C:=by
 induction A with
 |nil=>rfl
 |cons a A ih=>simp[ih]
theorem J7g {α:Type} {es:List α} (hij:i<j) (hj:j<es.length):∃A x B y C,es=A++x::(B++y::C)/\A.length=i/\B.length+i+1=j:=by
 have hi:i<es.length:=by omega
 refine⟨es.take i,es[i],(es.drop (i+1)).take (j - i - 1),es[j],es.drop (j+1),?_,by simp;omega,by simp;omega⟩
 have e1:es=es.take i++es[i]::es.drop (i+1):=by
  rw[<-List.drop_eq_getElem_cons hi,List.take_append_drop]
 have e2:es.drop (i+1)=(es.drop (i+1)).take (j - i - 1)++es[j]::es.drop (j+1):=by
  have hk:j - i - 1<(es.drop (i+1)).length:=by simp;omega
  have e3:(es.drop (i+1))[j - i - 1]=es[j]:=by simp only[List.getElem_drop];congr 1;omega
  have e4:(es.drop (i+1)).drop (j - i - 1+1)=es.drop (j+1):=by rw[List.drop_drop];congr 1;omega
  rw[<-e3,<-e4,<-List.drop_eq_getElem_cons hk,List.take_append_drop]
 rw[<-e2];exact e1
def J3b (es:List En) (i j:Nat):List En:=match es[i]?,es[j]? with
 |some x,some y=>(es.set i y).set j x
 |_,_=>es
theorem J52 (A B C:List En) (x y:En):J3b (A++x::(B++y::C)) A.length (B.length+A.length+1)=A++y::(B++x::C):=by
 have h1:(A++x::(B++y::C))[A.length]? =some x:=by simp
 have h2:(A++x::(B++y::C))[B.length+A.length+1]? =some y:=by
  rw[List.getElem?_append_right (by omega),show B.length+A.length+1 - A.length=B.length+1 by omega,List.getElem?_cons_succ]
  simp
 simp only[J3b,h1,h2];rw[J8l];have:A++y::(B++y::C)=(A++y::B)++y::C:=by simp
 rw[this,show B.length+A.length+1=(A++y::B).length by simp;omega,J8l]
 simp
theorem J3v (es:List En) (i j:Nat):(J3b es i j).length=es.length:=by
 unfold J3b;split<;>simp
theorem J3c (hij:i<j) (hj:j<es.length):(J3b es i j).Perm es:=by
 obtain⟨A,x,B,y,C,rfl,rfl,rfl⟩:=J7g hij hj
 rw[J52];refine List.Perm.append_left _ ?_;refine(List.Perm.cons _ List.perm_middle).trans ?_
 refine(List.Perm.swap _ _ _).trans ?_
 exact List.Perm.cons _ List.perm_middle.symm
theorem J4c {m:Nat} (hij:i<j) (hj:j<m):(J3b es i j).drop m=es.drop m:=by
 unfold J3b;split
 ·apply List.ext_getElem?
  intro a
  simp only[List.getElem?_drop,List.getElem?_set];rw[if_neg (by omega),if_neg (by omega)]
 ·rfl
theorem Jag (A B C:List En) (x y:En):K7 0 (A++x::(B++y::C))=K7 0 A++(x.b,J0y x A.length)::(K7 (A.length+1) B++(y.b,J0y y (B.length+A.length+1))::K7 (B.length+A.length+2) C):=by
 rw[J15,Nat.zero_add,K7,J15,K7,show A.length+1+B.length=B.length+A.length+1 by omega]
theorem J3r {r sl:Hp} {xb g n cap:Nat} (hS:J1 w0 l w (Jp xb mb (.slice (some ⟨g,0,none⟩) n cap) sl es++r)) (hat:Ky (.slice (some ⟨g,0,none⟩) n cap) sl es) (hij:i<j) (hj:j<es.length):
 Calls Tryz.prog 440 #[.slice (some ⟨g,0,none⟩) n cap,.int .i64 i,.int .i64 j] w fun e w'=>e= .returned (.tuple #[])/\
  ∃sl',Ky (.slice (some ⟨g,0,none⟩) n cap) sl' (J3b es i j)/\J1 w0 l w' (Jp xb mb (.slice (some ⟨g,0,none⟩) n cap) sl' (J3b es i j)++r):=by
 obtain⟨hsl⟩:=hat
 generalize hxs:es.map Kp=xs at hsl;generalize hn:es.length=n' at hsl;cases hsl with
 |laid g n cap xs rest hx hr hnc hc=>
 obtain⟨A,x,B,y,C,rfl,rfl,rfl⟩:=J7g hij hj
 subst hxs
 have hSx:J1 w0 l w ((xb,J1y (.slice (some ⟨g,0,none⟩) n cap) mb)::(g,.cells (((A++x::(B++y::C)).map Kp)++rest).toArray 331 (0,0))::
  (K7 0 A++(x.b,J0y x A.length)::(K7 (A.length+1) B++(y.b,J0y y (B.length+A.length+1))::(K7 (B.length+A.length+2) C++r)))):=by
  have:=hS
  rw[Jp,Jag] at this;simpa using this
 have hown:=hSx.own;have hg:=hown.tail.head;have hxo:w.heap[x.b]? =some (J0y x A.length):=hown.at_ (x.b,J0y x A.length) (by simp)
 have hyo:w.heap[y.b]? =some (J0y y (B.length+A.length+1)):=hown.at_ (y.b,J0y y (B.length+A.length+1)) (by simp)
 have hnd:=hown.nd;simp only[J0v,J0z,Jik,List.nodup_cons,List.mem_cons,List.mem_append,not_or] at hnd;have hgx:g≠x.b:=hnd.2.1.2.1;have hgy:g≠y.b:=hnd.2.1.2.2.2.1
 have hxy:x.b≠y.b:=by
  have:=hnd.2.2
  rw[List.nodup_append] at this;have:=this.2.1
  rw[List.nodup_cons] at this;intro e
  exact this.1 (by rw[e];simp)
 have ci:=J0 hg A.length;have cj:=J0 hg (B.length+A.length+1)
 have hi1:((((A++x::(B++y::C)).map Kp)++rest).toArray)[A.length]? =some (J1i x.b):=by
  simp[Kp]
 have hj1:((((A++x::(B++y::C)).map Kp)++rest).toArray)[B.length+A.length+1]? =some (J1i y.b):=by
  simp only[List.getElem?_toArray,List.map_append,List.map_cons,List.append_assoc,List.cons_append];rw[List.getElem?_append_right (by simp;omega)]
  rw[show B.length+A.length+1 - (A.map Kp).length=(B.map Kp).length+1 by simp;omega,List.getElem?_cons_succ]
  simp[Kp]
 rw[hi1] at ci;rw[hj1] at cj;have hlen:(A++x::(B++y::C)).length=A.length+1+B.length+1+C.length:=by simp;omega
 have hnn:n=A.length+1+B.length+1+C.length:=by rw[<-hlen,hn]
 refine(Jjk g n cap A.length (B.length+A.length+1) x.b y.b _ _ w (by omega) (by omega) (by omega) hnc hc ci cj (J0 hxo 2) (J0 hyo 2) (fun a=>J6 hg a) (J6 hxo 2) (J6 hyo 2) hgx hgy hxy).mono ?_
 rintro e w' ⟨he,rfl⟩;rw[J52];refine⟨he,[(g,.cells (((A++y::(B++x::C)).map Kp)++rest).toArray 331 (0,0))],⟨?_⟩,?_⟩
 ·have e1:(A++y::(B++x::C)).length=n:=by rw[hnn];simp;omega
  rw[e1];exact .laid g n cap _ rest (by rw[List.length_map,e1];omega) hr hnc hc
 ·have h1:=((hSx.set2 A.length (J1i y.b)).set2 (B.length+A.length+1) (J1i x.b))
  have ecs:((((A++x::(B++y::C)).map Kp)++rest).toArray.setIfInBounds A.length (J1i y.b)).setIfInBounds (B.length+A.length+1) (J1i x.b)=(((A++y::(B++x::C)).map Kp)++rest).toArray:=by
   simp only[List.setIfInBounds_toArray,List.map_append,List.map_cons,List.append_assoc,List.cons_append];congr 1
   have e1:=J8l (A.map Kp) (B.map Kp++Kp y::(C.map Kp++rest)) (Kp x) (J1i y.b);rw[List.length_map] at e1;rw[e1];have e2:A.map Kp++J1i y.b::(B.map Kp++Kp y::(C.map Kp++rest))=(A.map Kp++J1i y.b::B.map Kp)++Kp y::(C.map Kp++rest):=by simp
   rw[e2,show B.length+A.length+1=(A.map Kp++J1i y.b::B.map Kp).length by simp;omega,J8l]
   simp[Kp]
  rw[ecs] at h1
  have h2:J1 w0 l _ (((xb,J1y (.slice (some ⟨g,0,none⟩) n cap) mb)::(g,.cells (((A++y::(B++x::C)).map Kp)++rest).toArray 331 (0,0))::
   (K7 0 A++(x.b,J0y x A.length)::K7 (A.length+1) B))++(y.b,J0y y (B.length+A.length+1))::(K7 (B.length+A.length+2) C++r)):=h1.permR (List.Perm.of_eq (by simp))
  have h3:=h2.setIn 2 (.int .i64 (A.length:Nat))
  have h4:J1 w0 l _ (((xb,J1y (.slice (some ⟨g,0,none⟩) n cap) mb)::(g,.cells (((A++y::(B++x::C)).map Kp)++rest).toArray 331 (0,0))::K7 0 A)++(x.b,J0y x A.length)::(K7 (A.length+1) B++
   (y.b,J0y y A.length)::(K7 (B.length+A.length+2) C++r))):=h3.permR (List.Perm.of_eq (by simp))
  have h5:=h4.setIn 2 (.int .i64 ((B.length+A.length+1:Nat):Int));refine((h5.drew.drew).permR ?_)
  rw[Jp,Jag];simp only[List.cons_append,List.nil_append,List.append_assoc,List.singleton_append];refine List.Perm.cons _ (List.Perm.cons _ (List.Perm.append_left _ ?_));simp only[List.setIfInBounds_toArray,List.set_cons_succ,List.set_cons_zero];refine(List.Perm.cons _ List.perm_middle).trans ?_
  refine(List.Perm.swap _ _ _).trans ?_
  exact List.Perm.cons _ List.perm_middle.symm
end Go.Proofs.YtefjbegnlolgbaaGreatDoor
