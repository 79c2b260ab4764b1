/-
item.Put of a field that cannot be, or that is one too many: a copy of the item, and what is wrong.
-/
import Derived.JoinedOf
import Derived.WalkKit
import Derived.Test.YtncbcaabanoeoaaGreatDoorQ05
import Derived.Test.YtncbcaabanoeoaaGreatDoorRows
set_option linter.unusedVariables false
set_option linter.unusedSimpArgs false
set_option maxRecDepth 100000
set_option maxHeartbeats 8000000
namespace Go.Proofs.YtncbcaabanoeoaaGreatDoor
open Go Go.RowKit
def J5u (fs:Fs) (name s:ByteArray):Bool:=(decide (name.size<=512)&&decide (s.size<=4096))&&(has fs name||decide (fs.length<256))
def J8j (w0:World) (l r sl:Hp) (kind:Int) (text:ByteArray) (fs:Fs) (e:Ending) (w':World):Prop:=
 ∃v' sl',e= .returned (.tuple #[J6 kind text v',.bool false,.int .i64 94])/\Jj v' fs sl'/\J3 w0 l w' (sl'++(sl++r))
theorem Jg4 {w0 w:World} {l r sl:Hp} {v:Value} {fs:Fs} {kind:Int} {text:ByteArray} (hk:(kind==1)=false) (hS:J3 w0 l w (sl++r)) (hat:Jj v fs sl) (hr:J1z fs) (hB:fs.length<=256)
 (name s:ByteArray) (hbad:J5u fs name s=false):
 Calls Tryz.prog 161 #[J6 kind text v,.string name,.string s] w (J8j w0 l r sl kind text fs):=by
 obtain⟨a,c,rfl⟩:=hat.shape
 have S1:=((hS.alloc (.cells #[.int .i64 kind,.string text,.slice a fs.length c] 59)).alloc (.cells #[.int .i64 0,.string ByteArray.empty,.slice none 0 0] 59)).alloc (.cells #[.string name,.string s] 93);simp only[World.size_alloc] at S1;replace S1:=S1.permR Juc;have hcall:=hid (J58 (kind:=kind) (text:=text) S1 hat hr (by omega) name)
 have hat':=hid hat;have hB':=hid hB;have hsplit:(decide (name.size<=512)&&decide (s.size<=4096))=false\/((decide (name.size<=512)&&decide (s.size<=4096))=true/\has fs name=false/\(256:Int)<=(fs.length:Int)):=by
  unfold J5u at hbad;cases h1:(decide (name.size<=512)&&decide (s.size<=4096)) with
  |false=>exact .inl rfl
  |true=>
   right
   rw[h1] at hbad;simp only[Bool.true_and,Bool.or_eq_false_iff,decide_eq_false_iff_not] at hbad;exact⟨rfl,hbad.1,by omega⟩
 clear hS S1 hat hbad hB;rcases hsplit with hf0|⟨hf0,hh,hlen⟩
 ·go_enter Tryz.func161,Tryz.ntmps161
  unfold J6;go_wp2_with fail;refine hcall.out.mono ?_;rintro e w2 ⟨rfl,S2⟩;clear hcall;obtain⟨c0,c1⟩:=Jb1 S2.own.right.head
  obtain⟨x0,x1,x2⟩:=Jn S2.own.right.tail.tail.head
  have hf:=Jb6 S2 (name,s);simp only at hf
  rw[hf0] at hf;replace hf0:=hid hf0;unfold J7l at hf;simp only at hf
  replace hf:=hid hf;clear S2;go_wp2_with fail;refine hf.out.mono ?_;rintro e w3 ⟨rfl,S3⟩;clear c0 c1 x0 x1 x2;obtain⟨x0,x1,x2⟩:=Jn S3.own.right.tail.tail.head
  have hcp:=hid (J39 (kind:=kind) (text:=text) S3 hat'.out (by have:=hB'.out;omega))
  unfold J6 at hcp;clear S3 hf;go_wp2_with fail;refine hcp.out.mono ?_;rintro e w4 ⟨v',sl',rfl,hat2,S4⟩;obtain⟨a',c',rfl⟩:=hat2.shape
  replace hat2:=hid hat2;clear x0 x1 x2 hcp;have S5:=S4.pick (l2:=(w.heap.size+1,.cells #[.int .i64 0,.string ByteArray.empty,.slice none 0 0] 59 (0,0))::(sl'++(sl++r))) (m:=[(w.heap.size+1+1,.cells #[.string name,.string s] 93 (0,0)),(w.heap.size,.cells #[.int .i64 kind,.string text,.slice a fs.length c] 59 (0,0))]) (J5 fun f=>by
   simp only[List.map_append,List.sum_append,List.map_cons,List.sum_cons,List.append_eq,List.cons_append,List.nil_append,List.map_nil,List.sum_nil];omega)
  obtain⟨d0,d1,d2,f1⟩:=Jn S5.own.head
  have hlt:=Jf S5.own.head;have S6:=(((S5.set 0 (.int .i64 kind)).set 1 (.string text)).set 2 (.slice a' fs.length c')).less (List.sublist_cons_self _ _);have hfin:Hid (J8j w0 l r sl kind text fs (.returned (.tuple #[J6 kind text (.slice a' fs.length c'),.bool false,.int .i64 94])) _):=⟨_,sl',rfl,hat2.out,S6⟩;clear S4 S5 S6;go_wp2_with fail;refine bodyPost_ret (v:=.tuple #[J6 kind text (.slice a' fs.length c'),.bool false,.int .i64 94]) (by simp[results,Tryz.results161,go_sem,J6, *]) rfl ?_
  exact hfin.out
 ·go_enter Tryz.func161,Tryz.ntmps161
  unfold J6;go_wp2_with fail;refine hcall.out.mono ?_;rintro e w2 ⟨rfl,S2⟩;clear hcall;obtain⟨c0,c1⟩:=Jb1 S2.own.right.head
  obtain⟨x0,x1,x2⟩:=Jn S2.own.right.tail.tail.head
  have hf:=Jb6 S2 (name,s);simp only at hf
  rw[hf0] at hf;replace hf0:=hid hf0;unfold J7l at hf;simp only at hf
  replace hf:=hid hf;rw[hh];clear S2;go_wp2_with fail;refine hf.out.mono ?_;rintro e w3 ⟨rfl,S3⟩;clear c0 c1 x0 x1 x2;obtain⟨x0,x1,x2⟩:=Jn S3.own.right.tail.tail.head
  have hcp:=hid (J39 (kind:=kind) (text:=text) S3 hat'.out (by have:=hB'.out;omega))
  unfold J6 at hcp;clear S3 hf;go_wp2_with fail;refine hcp.out.mono ?_;rintro e w4 ⟨v',sl',rfl,hat2,S4⟩;obtain⟨a',c',rfl⟩:=hat2.shape
  replace hat2:=hid hat2;clear x0 x1 x2 hcp;have S5:=S4.pick (l2:=(w.heap.size+1,.cells #[.int .i64 0,.string ByteArray.empty,.slice none 0 0] 59 (0,0))::(sl'++(sl++r))) (m:=[(w.heap.size+1+1,.cells #[.string name,.string s] 93 (0,0)),(w.heap.size,.cells #[.int .i64 kind,.string text,.slice a fs.length c] 59 (0,0))]) (J5 fun f=>by
   simp only[List.map_append,List.sum_append,List.map_cons,List.sum_cons,List.append_eq,List.cons_append,List.nil_append,List.map_nil,List.sum_nil];omega)
  obtain⟨d0,d1,d2,f1⟩:=Jn S5.own.head
  have hlt:=Jf S5.own.head;have S6:=(((S5.set 0 (.int .i64 kind)).set 1 (.string text)).set 2 (.slice a' fs.length c')).less (List.sublist_cons_self _ _);have hfin:Hid (J8j w0 l r sl kind text fs (.returned (.tuple #[J6 kind text (.slice a' fs.length c'),.bool false,.int .i64 94])) _):=⟨_,sl',rfl,hat2.out,S6⟩;clear S4 S5 S6;go_wp2_with fail;refine bodyPost_ret (v:=.tuple #[J6 kind text (.slice a' fs.length c'),.bool false,.int .i64 94]) (by simp[results,Tryz.results161,go_sem,J6, *]) rfl ?_
  exact hfin.out
theorem Jqv:joinedFacts Tryz.pinned.checked.prog 3 Tryz.f3 Rows.execKeysSpec Rows.execKeysRow=true:=by
 unfold joinedFacts;simp only[Bool.and_eq_true];repeat' apply And.intro
 all_goals (as_aux_lemma=>kernel_rfl)
end Go.Proofs.YtncbcaabanoeoaaGreatDoor
