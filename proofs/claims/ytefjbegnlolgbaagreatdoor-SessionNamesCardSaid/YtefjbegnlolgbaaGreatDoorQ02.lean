/-
item.at over any fields; item.Get; item.field; item.Copy.
-/
import Derived.Deep.RegionLaw
import Derived.Laws.IdiomCopy
import Derived.Lib.AppendZerosOnto
import Derived.Lib.Overlaps
import Derived.Test.YtefjbegnlolgbaaGreatDoorQ01
set_option linter.unusedVariables false
set_option linter.unusedSimpArgs false
set_option maxRecDepth 100000
set_option maxHeartbeats 8000000
namespace Go.Proofs.YtefjbegnlolgbaaGreatDoor
open Go Go.RowKit
variable {v:Value}{l:Hp}
theorem Jq.shape {fs:Fs} (h:Jq v fs l):∃a c,v= .slice a fs.length c:=by
 obtain⟨h,_⟩:=h
 generalize fs.length=n at h⊢;generalize K9 fs=xs at h;cases h with
 |nil=>exact⟨_,_,rfl⟩
 |laid g n cap xs rest hx hr hn hc=>exact⟨_,_,rfl⟩
def J8 (kind:Int) (text:ByteArray) (v:Value):Value:=.agg #[.int .i64 kind,.string text,v]
theorem Jq.none (h:Jq v [] l):v= .slice none 0 0:=h.nil rfl
theorem Jgc {w0 w:World} {r:Hp} (hS:J1 w0 l w r) (f:ByteArray×ByteArray):
 Calls Tryz.prog 273 #[Jd6 f] w fun e w'=>e= .returned (.bool (decide (f.1.size<=512)&&decide (f.2.size<=4096)))/\J1 w0 l w' r:=by
 replace hS:=hid hS;have hfin:=hid ((hS.out.alloc (.cells #[.string f.1,.string f.2] 328)).less (List.sublist_cons_self _ _));by_cases h1:(f.1.size:Int)<=512
 ·by_cases h2:(f.2.size:Int)<=4096
  ·have e:Hid ((decide (f.1.size<=512)&&decide (f.2.size<=4096))=true):=hid (by simp;omega)
   go_enter Tryz.func273,Tryz.ntmps273;unfold Jd6;go_wp2_with fail;go_ret;rw[e.out];exact⟨rfl,hfin.out⟩
  ·have e:Hid ((decide (f.1.size<=512)&&decide (f.2.size<=4096))=false):=hid (by simp;omega)
   go_enter Tryz.func273,Tryz.ntmps273;unfold Jd6;go_wp2_with fail;go_ret;rw[e.out];exact⟨rfl,hfin.out⟩
 ·have e:Hid ((decide (f.1.size<=512)&&decide (f.2.size<=4096))=false):=hid (by simp;omega)
  go_enter Tryz.func273,Tryz.ntmps273;unfold Jd6;go_wp2_with fail;go_ret;rw[e.out];exact⟨rfl,hfin.out⟩
theorem Jcw {w0 w:World} {r sl:Hp} {fs:Fs} {kind:Int} {text:ByteArray} (hS:J1 w0 l w (sl++r)) (hat:Jq v fs sl) (hB:fs.length<=1048576):
 Calls Tryz.prog 168 #[J8 kind text v] w fun e w'=>∃v' sl',e= .returned (J8 kind text v')/\Jq v' fs sl'/\J1 w0 l w' (sl'++(sl++r)):=by
 obtain⟨a,c,rfl⟩:=hat.shape
 have S1:=(hS.alloc (.cells #[.int .i64 kind,.string text,.slice a fs.length c] 183)).alloc (.cells #[.int .i64 0,.string ByteArray.empty,.slice none 0 0] 183);rw[World.size_alloc] at S1
 have S2:=S1.permR (l2:=sl++((w.heap.size,.cells #[.int .i64 kind,.string text,.slice a fs.length c] 183)::(w.heap.size+1,.cells #[.int .i64 0,.string ByteArray.empty,.slice none 0 0] 183)::r)) (by
  refine(List.Perm.swap _ _ _).trans ?_
  exact List.perm_append_comm_assoc [_,_] sl r)
 have hcall:=hid (Jg5 S2 hat hB);clear S1 S2 hat hS;go_enter Tryz.func168,Tryz.ntmps168;unfold J8;go_wp2_with fail;refine hcall.out.mono ?_;rintro e w2 ⟨v',sl',rfl,hat',S3⟩;obtain⟨a',c',rfl⟩:=hat'.shape
 have hown:=S3.own;have hx:=hown.right.right.head;have hy:=hown.right.right.tail.head;have c0:=J0 hx 0;have c1:=J0 hx 1;have c2:=J0 hx 2;have f2:w2.frozen? ⟨w.heap.size,2,none⟩=false:=J6 hx 2;have d0:=J0 hy 0;have d1:=J0 hy 1;have d2:=J0 hy 2;simp only[List.getElem?_toArray,List.getElem?_cons_succ,List.getElem?_cons_zero] at c0 c1 c2 d0 d1 d2;have g0:w2.frozen? ⟨w.heap.size+1,0,none⟩=false:=J6 hy 0;have g1:w2.frozen? ⟨w.heap.size+1,1,none⟩=false:=J6 hy 1;have g2:w2.frozen? ⟨w.heap.size+1,2,none⟩=false:=J6 hy 2
 have P1:=S3.permR (l2:=(w.heap.size,.cells #[.int .i64 kind,.string text,.slice a fs.length c] 183)::(w.heap.size+1,.cells #[.int .i64 0,.string ByteArray.empty,.slice none 0 0] 183)::(sl'++(sl++r)))
  ((List.Perm.append_left sl' (List.perm_append_comm_assoc sl [_,_] r)).trans (List.perm_append_comm_assoc sl' [_,_] (sl++r)))
 have P2:=(((((P1.set 2 (.slice a' fs.length c')).permR (List.Perm.swap _ _ _)).set 0 (.int .i64 kind)).set 1 (.string text)).set 2 (.slice a' fs.length c')).less ((List.sublist_cons_self _ _).trans (List.sublist_cons_self _ _));have hfin:=hid P2;clear hx hy hown hcall P1 P2 S3;replace hat':=hid hat';go_wp2_with fail;refine bodyPost_ret (v:=J8 kind text (.slice a' fs.length c')) (by simp[results,Tryz.results168,go_sem,J8, *]) rfl ?_
 exact⟨_,sl',rfl,hat'.out,hfin.out⟩
theorem J33 (b o j:Nat):(⟨b,o,none⟩:Addr).add j=⟨b,o+j,none⟩:=by unfold Addr.add;split<;>simp_all
end Go.Proofs.YtefjbegnlolgbaaGreatDoor
namespace Go.Proofs.YtefjbegnlolgbaaGreatDoor
theorem Jg1.sub {fs gs:Fs} (h:Jg1 fs) (s:gs.Sublist fs):Jg1 gs:=List.Pairwise.sublist s h
end Go.Proofs.YtefjbegnlolgbaaGreatDoor
