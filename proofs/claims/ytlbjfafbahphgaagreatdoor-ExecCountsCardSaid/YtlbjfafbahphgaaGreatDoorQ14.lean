/-
item.Put of a field that cannot be, or that is one too many: a copy of the item, and what is wrong.
-/
import Derived.Ground.NamesProg
import Derived.JoinedOf
import Derived.Shelf.Slices.In.SortAlone
import Derived.Shelf.Slices.In.SortNone
import Derived.Sort.EveryDepth
import Derived.WalkKit
import Derived.Test.YtlbjfafbahphgaaGreatDoorProg
import Derived.Test.YtlbjfafbahphgaaGreatDoorQ05
import Derived.Test.YtlbjfafbahphgaaGreatDoorRows
set_option linter.unusedVariables false
set_option linter.unusedSimpArgs false
set_option maxRecDepth 100000
set_option maxHeartbeats 8000000
namespace Go.Proofs.YtlbjfafbahphgaaGreatDoor
open Go Go.RowKit
def putOk (fs:Fs) (name s:ByteArray):Bool:=(decide (name.size<=512)&&decide (s.size<=4096))&&(has fs name||decide (fs.length<256))
def BadItPost (w0:World) (l r sl:Hp) (kind:Int) (text:ByteArray) (fs:Fs) (e:Ending) (w':World):Prop:=
 ∃v' sl',e= .returned (.tuple #[itemVal kind text v',.bool false,.int .i64 94])/\IsFields v' fs sl'/\Step w0 l w' (sl'++(sl++r))
theorem itput_bad {w0 w:World} {l r sl:Hp} {v:Value} {fs:Fs} {kind:Int} {text:ByteArray} (hk:(kind==1)=false) (hS:Step w0 l w (sl++r)) (hat:IsFields v fs sl) (hr:Rise fs) (hB:fs.length<=256)
 (name s:ByteArray) (hbad:putOk fs name s=false):
 Calls Tryz.prog 162 #[itemVal kind text v,.string name,.string s] w (BadItPost w0 l r sl kind text fs):=by
 obtain⟨a,c,rfl⟩:=hat.shape
 have S1:=((hS.alloc (.cells #[.int .i64 kind,.string text,.slice a fs.length c] 59)).alloc (.cells #[.int .i64 0,.string ByteArray.empty,.slice none 0 0] 59)).alloc (.cells #[.string name,.string s] 94)
 simp only[World.size_alloc] at S1
 replace S1:=S1.permR perm3
 have hcall:=hid (itat_any (kind:=kind) (text:=text) S1 hat hr (by omega) name)
 have hat':=hid hat
 have hB':=hid hB
 have hsplit:(decide (name.size<=512)&&decide (s.size<=4096))=false\/((decide (name.size<=512)&&decide (s.size<=4096))=true/\has fs name=false/\(256:Int)<=(fs.length:Int)):=by
  unfold putOk at hbad
  cases h1:(decide (name.size<=512)&&decide (s.size<=4096)) with
  |false=>exact .inl rfl
  |true=>
   right
   rw[h1] at hbad
   simp only[Bool.true_and,Bool.or_eq_false_iff,decide_eq_false_iff_not] at hbad
   exact⟨rfl,hbad.1,by omega⟩
 clear hS S1 hat hbad hB
 rcases hsplit with hf0|⟨hf0,hh,hlen⟩
 ·go_enter Tryz.func162,Tryz.ntmps162
  unfold itemVal
  go_wp2_with fail
  refine hcall.out.mono ?_
  rintro e w2 ⟨rfl,S2⟩
  clear hcall
  obtain⟨c0,c1⟩:=cells2 S2.own.right.head
  obtain⟨x0,x1,x2⟩:=cells3 S2.own.right.tail.tail.head
  have hf:=field_any S2 (name,s)
  simp only at hf
  rw[hf0] at hf
  replace hf0:=hid hf0
  unfold fval at hf
  simp only at hf
  replace hf:=hid hf
  clear S2
  go_wp2_with fail
  refine hf.out.mono ?_
  rintro e w3 ⟨rfl,S3⟩
  clear c0 c1 x0 x1 x2
  obtain⟨x0,x1,x2⟩:=cells3 S3.own.right.tail.tail.head
  have hcp:=hid (copy_any (kind:=kind) (text:=text) S3 hat'.out (by have:=hB'.out;omega))
  unfold itemVal at hcp
  clear S3 hf
  go_wp2_with fail
  refine hcp.out.mono ?_
  rintro e w4 ⟨v',sl',rfl,hat2,S4⟩
  obtain⟨a',c',rfl⟩:=hat2.shape
  replace hat2:=hid hat2
  clear x0 x1 x2 hcp
  have S5:=S4.pick (l2:=(w.heap.size+1,.cells #[.int .i64 0,.string ByteArray.empty,.slice none 0 0] 59 (0,0))::(sl'++(sl++r))) (m:=[(w.heap.size+1+1,.cells #[.string name,.string s] 94 (0,0)),(w.heap.size,.cells #[.int .i64 kind,.string text,.slice a fs.length c] 59 (0,0))]) (perm_by fun f=>by
   simp only[List.map_append,List.sum_append,List.map_cons,List.sum_cons,List.append_eq,List.cons_append,List.nil_append,List.map_nil,List.sum_nil];omega)
  obtain⟨d0,d1,d2,f1⟩:=cells3 S5.own.head
  have hlt:=block_lt S5.own.head
  have S6:=(((S5.set 0 (.int .i64 kind)).set 1 (.string text)).set 2 (.slice a' fs.length c')).less (List.sublist_cons_self _ _)
  have hfin:Hid (BadItPost w0 l r sl kind text fs (.returned (.tuple #[itemVal kind text (.slice a' fs.length c'),.bool false,.int .i64 94])) _):=⟨_,sl',rfl,hat2.out,S6⟩
  clear S4 S5 S6
  go_wp2_with fail
  refine bodyPost_ret (v:=.tuple #[itemVal kind text (.slice a' fs.length c'),.bool false,.int .i64 94]) (by simp[results,Tryz.results162,go_sem,itemVal, *]) rfl ?_
  exact hfin.out
 ·go_enter Tryz.func162,Tryz.ntmps162
  unfold itemVal
  go_wp2_with fail
  refine hcall.out.mono ?_
  rintro e w2 ⟨rfl,S2⟩
  clear hcall
  obtain⟨c0,c1⟩:=cells2 S2.own.right.head
  obtain⟨x0,x1,x2⟩:=cells3 S2.own.right.tail.tail.head
  have hf:=field_any S2 (name,s)
  simp only at hf
  rw[hf0] at hf
  replace hf0:=hid hf0
  unfold fval at hf
  simp only at hf
  replace hf:=hid hf
  rw[hh]
  clear S2
  go_wp2_with fail
  refine hf.out.mono ?_
  rintro e w3 ⟨rfl,S3⟩
  clear c0 c1 x0 x1 x2
  obtain⟨x0,x1,x2⟩:=cells3 S3.own.right.tail.tail.head
  have hcp:=hid (copy_any (kind:=kind) (text:=text) S3 hat'.out (by have:=hB'.out;omega))
  unfold itemVal at hcp
  clear S3 hf
  go_wp2_with fail
  refine hcp.out.mono ?_
  rintro e w4 ⟨v',sl',rfl,hat2,S4⟩
  obtain⟨a',c',rfl⟩:=hat2.shape
  replace hat2:=hid hat2
  clear x0 x1 x2 hcp
  have S5:=S4.pick (l2:=(w.heap.size+1,.cells #[.int .i64 0,.string ByteArray.empty,.slice none 0 0] 59 (0,0))::(sl'++(sl++r))) (m:=[(w.heap.size+1+1,.cells #[.string name,.string s] 94 (0,0)),(w.heap.size,.cells #[.int .i64 kind,.string text,.slice a fs.length c] 59 (0,0))]) (perm_by fun f=>by
   simp only[List.map_append,List.sum_append,List.map_cons,List.sum_cons,List.append_eq,List.cons_append,List.nil_append,List.map_nil,List.sum_nil];omega)
  obtain⟨d0,d1,d2,f1⟩:=cells3 S5.own.head
  have hlt:=block_lt S5.own.head
  have S6:=(((S5.set 0 (.int .i64 kind)).set 1 (.string text)).set 2 (.slice a' fs.length c')).less (List.sublist_cons_self _ _)
  have hfin:Hid (BadItPost w0 l r sl kind text fs (.returned (.tuple #[itemVal kind text (.slice a' fs.length c'),.bool false,.int .i64 94])) _):=⟨_,sl',rfl,hat2.out,S6⟩
  clear S4 S5 S6
  go_wp2_with fail
  refine bodyPost_ret (v:=.tuple #[itemVal kind text (.slice a' fs.length c'),.bool false,.int .i64 94]) (by simp[results,Tryz.results162,go_sem,itemVal, *]) rfl ?_
  exact hfin.out
end Go.Proofs.YtlbjfafbahphgaaGreatDoor
namespace Go.Proofs
open Go.Shelf
def Tryz.laysSort_ren:Go.Shelf.Ren:=⟨fun|190=>30|125=>68|258=>67|128=>129|129=>130|302=>120|303=>121|304=>122|305=>123|306=>124|307=>125|308=>126|309=>127|310=>128|333=>170|329=>171|330=>172|334=>173|335=>174|336=>175|344=>209|n=>n,fun|31=>23|9=>9|3=>3|46=>133|0=>0|51=>191|53=>91|4=>4|183=>184|182=>183|131=>88|5=>5|218=>240|222=>244|228=>276|229=>277|n=>n,fun|n=>n⟩
theorem Tryz.laysSort:Go.Proofs.Lays.n190 Tryz.prog Tryz.laysSort_ren:={
 mixed:=by kernel_rfl
 f125:=Tryz.func68.trans (congrArg some (by kernel_rfl))
 f128:=Tryz.func129.trans (congrArg some (by kernel_rfl))
 f129:=Tryz.func130.trans (congrArg some (by kernel_rfl))
 f190:=Tryz.func30.trans (congrArg some (by kernel_rfl))
 f258:=Tryz.func67.trans (congrArg some (by kernel_rfl))
 f302:=Tryz.func120.trans (congrArg some (by kernel_rfl))
 f303:=Tryz.func121.trans (congrArg some (by kernel_rfl))
 f304:=Tryz.func122.trans (congrArg some (by kernel_rfl))
 f305:=Tryz.func123.trans (congrArg some (by kernel_rfl))
 f306:=Tryz.func124.trans (congrArg some (by kernel_rfl))
 f307:=Tryz.func125.trans (congrArg some (by kernel_rfl))
 f308:=Tryz.func126.trans (congrArg some (by kernel_rfl))
 f309:=Tryz.func127.trans (congrArg some (by kernel_rfl))
 f310:=Tryz.func128.trans (congrArg some (by kernel_rfl))
 f329:=Tryz.func171.trans (congrArg some (by kernel_rfl))
 f330:=Tryz.func172.trans (congrArg some (by kernel_rfl))
 f333:=Tryz.func170.trans (congrArg some (by kernel_rfl))
 f334:=Tryz.func173.trans (congrArg some (by kernel_rfl))
 f335:=Tryz.func174.trans (congrArg some (by kernel_rfl))
 f336:=Tryz.func175.trans (congrArg some (by kernel_rfl))
 f344:=Tryz.func209.trans (congrArg some (by kernel_rfl))
 t0:=Tryz.underlying0
 a0:=Tryz.isAgg0
 z0:=Tryz.sizeOf0
 v0:=Tryz.zeroValue0
 t3:=Tryz.underlying3
 a3:=Tryz.isAgg3
 z3:=Tryz.sizeOf3
 v3:=Tryz.zeroValue3
 t4:=Tryz.underlying4
 a4:=Tryz.isAgg4
 z4:=Tryz.sizeOf4
 v4:=Tryz.zeroValue4
 t5:=Tryz.underlying5
 a5:=Tryz.isAgg5
 z5:=Tryz.sizeOf5
 v5:=Tryz.zeroValue5
 t9:=Tryz.underlying9
 a9:=Tryz.isAgg9
 z9:=Tryz.sizeOf9
 v9:=Tryz.zeroValue9
 t31:=Tryz.underlying23
 a31:=Tryz.isAgg23
 z31:=Tryz.sizeOf23
 v31:=Tryz.zeroValue23
 t46:=Tryz.underlying133
 a46:=Tryz.isAgg133
 z46:=Tryz.sizeOf133
 v46:=Tryz.zeroValue133
 t51:=Tryz.underlying191
 a51:=Tryz.isAgg191
 z51:=Tryz.sizeOf191
 v51:=Tryz.zeroValue191
 t53:=Tryz.underlying91
 a53:=Tryz.isAgg91
 z53:=Tryz.sizeOf91
 v53:=Tryz.zeroValue91
 t131:=Tryz.underlying88
 a131:=Tryz.isAgg88
 z131:=Tryz.sizeOf88
 v131:=Tryz.zeroValue88
 t182:=Tryz.underlying183
 a182:=Tryz.isAgg183
 z182:=Tryz.sizeOf183
 v182:=Tryz.zeroValue183
 t183:=Tryz.underlying184
 a183:=Tryz.isAgg184
 z183:=Tryz.sizeOf184
 v183:=Tryz.zeroValue184
 t218:=Tryz.underlying240
 a218:=Tryz.isAgg240
 z218:=Tryz.sizeOf240
 v218:=Tryz.zeroValue240
 t222:=Tryz.underlying244
 a222:=Tryz.isAgg244
 z222:=Tryz.sizeOf244
 v222:=Tryz.zeroValue244
 t228:=Tryz.underlying276
 a228:=Tryz.isAgg276
 z228:=Tryz.sizeOf276
 v228:=Tryz.zeroValue276
 t229:=Tryz.underlying277
 a229:=Tryz.isAgg277
 z229:=Tryz.sizeOf277
 v229:=Tryz.zeroValue277}
end Go.Proofs
namespace Go.Proofs.YtlbjfafbahphgaaGreatDoor
open Go Go.RowKit
theorem countsFacts:joinedFacts Tryz.pinned.checked.prog 5 Tryz.f5 Rows.execCountsSpec Rows.execCountsRow=true:=by
 unfold joinedFacts
 simp only[Bool.and_eq_true]
 repeat' apply And.intro
 all_goals (as_aux_lemma=>kernel_rfl)
end Go.Proofs.YtlbjfafbahphgaaGreatDoor
