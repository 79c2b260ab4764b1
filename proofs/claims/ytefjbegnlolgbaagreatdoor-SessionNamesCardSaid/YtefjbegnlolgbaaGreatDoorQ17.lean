/-
item.Add to a text.
-/
import Derived.Test.YtefjbegnlolgbaaGreatDoorQ16
set_option linter.unusedVariables false
set_option linter.unusedSimpArgs false
set_option maxRecDepth 100000
set_option maxHeartbeats 8000000
namespace Go.Proofs.YtefjbegnlolgbaaGreatDoor
open Go Go.RowKit
variable {w w0:World}{b g:Nat}{r:Hp}{o0 o1 o2 o3 o4 o5:Value}{c:UInt8}{l:List UInt8}{t:TypeId}{name:ByteArray}
theorem J82 {s:ByteArray} {m:Int} (h:J2n s=some m): -9223372036854775808<=m/\m<=9223372036854775807:=by
 unfold J2n at h;split at h
 ·rename_i v hp
  have hb:=Lib.parseIntB_bounds hp;split at h
  ·simp only[Option.some.injEq] at h
   subst h;constructor<;>simp at hb<;>omega
  ·exact absurd h (by simp)
 ·exact absurd h (by simp)
structure Jhp (w:World) (b:Nat):Prop where
 c0:∃x,w.cell? ⟨b,0,none⟩=some x
 c1:∃x,w.cell? ⟨b,1,none⟩=some x
 c2:∃x,w.cell? ⟨b,2,none⟩=some x
 c3:∃x,w.cell? ⟨b,3,none⟩=some x
 c4:∃x,w.cell? ⟨b,4,none⟩=some x
 c5:∃x,w.cell? ⟨b,5,none⟩=some x
 fz:∀j,w.frozen? ⟨b,j,none⟩=false
 lt:b<w.heap.size
theorem J42 (h:Own w ((b,.cells #[o0,o1,o2,o3,o4,o5] 29 (0,0))::r)):Jhp w b:=
 ⟨⟨_,J0 h.head 0⟩,⟨_,J0 h.head 1⟩,⟨_,J0 h.head 2⟩,⟨_,J0 h.head 3⟩,⟨_,J0 h.head 4⟩,⟨_,J0 h.head 5⟩,fun j=>J6 h.head j,Jc h.head⟩
theorem Jju (hS:J1 w0 [] w r) (kind:Int) (text:ByteArray) (v:Value):
 Calls Tryz.prog 89 #[J8 kind text v,.bool false] w (Ji w0 r (J3 6 ByteArray.empty 0 (.slice none 0 0))):=by
 have S1:=(hS.alloc (.cells #[.int .i64 kind,.string text,v] 183)).alloc (.cells #[.int .i64 0,.string ByteArray.empty,.int .i64 0,.float .f64 0,.bool false,.slice none 0 0] 29);rw[World.size_alloc] at S1;have hnil:=hid (Jea S1);clear hS S1;go_enter Tryz.func89,Tryz.ntmps89;unfold J8;go_wp2_with fail;refine hnil.out.mono ?_;rintro e w1 ⟨rfl,S2⟩;obtain⟨⟨c0,hc0⟩,⟨c1,hc1⟩,⟨c2,hc2⟩,⟨c3,hc3⟩,⟨c4,hc4⟩,⟨c5,hc5⟩,fz,hlt⟩:=J42 S2.own
 have hlast:=hid (((((((S2.set 0 (.int .i64 6)).set 1 (.string ByteArray.empty)).set 2 (.int .i64 0)).set 3 (.float .f64 0)).set 4 (.bool false)).set 5 (.slice none 0 0)).less ((List.sublist_cons_self _ _).trans (List.sublist_cons_self _ _)));clear S2 hnil;unfold J3;go_wp2_with fail;refine bodyPost_ret (v:=J3 6 ByteArray.empty 0 (.slice none 0 0)) (by simp[results,Tryz.results89,go_sem,J3, *]<;>rfl) rfl ?_
 exact⟨rfl,hlast.out⟩
theorem Jhf (hS:J1 w0 [] w r) (text:ByteArray) (v:Value):
 Calls Tryz.prog 89 #[J8 2 text v,.bool true] w (Ji w0 r (J3 2 (Jo 91) 0 (.slice none 0 0))):=by
 have S1:=(hS.alloc (.cells #[.int .i64 2,.string text,v] 183)).alloc (.cells #[.int .i64 0,.string ByteArray.empty,.int .i64 0,.float .f64 0,.bool false,.slice none 0 0] 29);rw[World.size_alloc] at S1;have hnil:=hid (J7d S1 91 (by unfold J0u;omega))
 clear hS S1;generalize Jo 91=t at hnil⊢;go_enter Tryz.func89,Tryz.ntmps89;unfold J8;go_wp2_with fail;refine hnil.out.mono ?_;rintro e w1 ⟨rfl,S2⟩;obtain⟨⟨c0,hc0⟩,⟨c1,hc1⟩,⟨c2,hc2⟩,⟨c3,hc3⟩,⟨c4,hc4⟩,⟨c5,hc5⟩,fz,hlt⟩:=J42 S2.own
 have hlast:=hid (((((((S2.set 0 (.int .i64 2)).set 1 (.string (t))).set 2 (.int .i64 0)).set 3 (.float .f64 0)).set 4 (.bool false)).set 5 (.slice none 0 0)).less ((List.sublist_cons_self _ _).trans (List.sublist_cons_self _ _)));clear S2 hnil;unfold J3;go_wp2_with fail;refine bodyPost_ret (v:=J3 2 (t) 0 (.slice none 0 0)) (by simp[results,Tryz.results89,go_sem,J3, *]<;>rfl) rfl ?_
 exact⟨rfl,hlast.out⟩
theorem Jhg (hS:J1 w0 [] w r) (kind:Int) (text:ByteArray) (v:Value) (hk:¬kind=2):
 Calls Tryz.prog 89 #[J8 kind text v,.bool true] w (Ji w0 r (J3 4 text 0 (.slice none 0 0))):=by
 have S1:=(hS.alloc (.cells #[.int .i64 kind,.string text,v] 183)).alloc (.cells #[.int .i64 0,.string ByteArray.empty,.int .i64 0,.float .f64 0,.bool false,.slice none 0 0] 29);rw[World.size_alloc] at S1;have hnil:=hid (Jb7 S1 text);have hk2:(kind==2)=false:=by simpa using hk
 clear hS S1;go_enter Tryz.func89,Tryz.ntmps89;unfold J8;go_wp2_with fail;refine hnil.out.mono ?_;rintro e w1 ⟨rfl,S2⟩;obtain⟨⟨c0,hc0⟩,⟨c1,hc1⟩,⟨c2,hc2⟩,⟨c3,hc3⟩,⟨c4,hc4⟩,⟨c5,hc5⟩,fz,hlt⟩:=J42 S2.own
 have hlast:=hid (((((((S2.set 0 (.int .i64 4)).set 1 (.string text)).set 2 (.int .i64 0)).set 3 (.float .f64 0)).set 4 (.bool false)).set 5 (.slice none 0 0)).less ((List.sublist_cons_self _ _).trans (List.sublist_cons_self _ _)));clear S2 hnil;unfold J3;go_wp2_with fail;refine bodyPost_ret (v:=J3 4 text 0 (.slice none 0 0)) (by simp[results,Tryz.results89,go_sem,J3, *]<;>rfl) rfl ?_
 exact⟨rfl,hlast.out⟩
theorem J62 (hS:J1 w0 [] w r) (kind:Int) (text:ByteArray) (n:Int):
 Calls Tryz.prog 43 #[J3 kind text n (.slice none 0 0)] w (Ji w0 r (J3 kind text n (.slice none 0 0))):=by
 have S1:=hid (((hS.alloc (.cells #[.int .i64 kind,.string text,.int .i64 n,.float .f64 0,.bool false,.slice none 0 0] 29)).alloc (.cells #[.int .i64 kind,.string text,.int .i64 n,.float .f64 0,.bool false,.slice none 0 0] 29)).less ((List.sublist_cons_self _ _).trans (List.sublist_cons_self _ _)));clear hS;go_enter Tryz.func43,Tryz.ntmps43;unfold J3;go_wp2_with fail;go_loopg [3,9] 0 (fun k x i wr=>x= .slice none 0 0/\i= .int .i64 0/\wr=(w.alloc (.cells #[.int .i64 kind,.string text,.int .i64 n,.float .f64 0,.bool false,.slice none 0 0] 29)).alloc (.cells #[.int .i64 0,.string ByteArray.empty,.int .i64 0,.float .f64 0,.bool false,.slice none 0 0] 29))
 case atStart=>exact⟨rfl,rfl,rfl⟩
 case round=>
  obtain⟨rfl,rfl,rfl⟩:=hrel
  go_wp2_with fail;refine bodyPost_ret (v:=J3 kind text n (.slice none 0 0)) (by simp[results,Tryz.results43,go_sem,J3, *]<;>rfl) rfl ?_
  exact⟨rfl,S1.out⟩
def Jy (name:ByteArray) (kind least most first last step:Int):Value:=.agg #[.string name,.int .i64 kind,.int .i64 least,.int .i64 most,.int .i64 first,.int .i64 last,.int .i64 step]
def Jam (name:ByteArray) (many:Int):Bool:=(decide (name.toList=[77,83,69,84])&&decide (many.tmod 2=0))||(decide (name.toList=[72,83,69,84])&&decide (many.tmod 2=1))
theorem Jkx (hS:J1 w0 [] w r) (name:ByteArray) (kind least most first last step:Int) (many:Int):
 Calls Tryz.prog 32 #[Jy name kind least most first last step,.int .i64 many] w (Ji w0 r (.bool (Jam name many))):=by
 have S1:=hid ((hS.alloc (.cells #[.string name,.int .i64 kind,.int .i64 least,.int .i64 most,.int .i64 first,.int .i64 last,.int .i64 step] 53)).less (List.sublist_cons_self _ _));obtain⟨b,hb⟩:∃b,Jam name many=b:=⟨_,rfl⟩
 rw[hb];replace hb:=hid hb;clear hS;go_enter Tryz.func32,Tryz.ntmps32;unfold Jy;go_wp2_with fail;all_goals go_ret
 all_goals exact⟨congrArg (fun x:Bool=>Ending.returned (Value.bool x)) (by rw[<-hb.out];simp[Jam, *]<;>rfl),S1.out⟩
theorem Jjg {a b c d f:Int} (hS:J1 w0 [] w ((g,.cells #[.int .i64 a,.int .i64 b,.int .i64 c,.int .i64 d,.int .i64 f] 3 (0,0))::r)) (name:ByteArray) (kind:Int):
 Calls Tryz.prog 81 #[.string name,.int .i64 kind,.slice (some ⟨g,0,none⟩) 5 5] w (Ji w0 r (Jy name kind a b c d f)):=by
 have S1:=hS.alloc (.cells #[.string ByteArray.empty,.int .i64 0,.int .i64 0,.int .i64 0,.int .i64 0,.int .i64 0,.int .i64 0] 53);have x0:∀p:InW w0 [] ((w.heap.size,.cells #[.string ByteArray.empty,.int .i64 0,.int .i64 0,.int .i64 0,.int .i64 0,.int .i64 0,.int .i64 0] 53 (0,0))::(g,.cells #[.int .i64 a,.int .i64 b,.int .i64 c,.int .i64 d,.int .i64 f] 3 (0,0))::r),p.w.cell? ⟨g,0,none⟩=some (.int .i64 a):=fun p=>J0 p.h.own.tail.head 0
 have x1:∀p:InW w0 [] ((w.heap.size,.cells #[.string ByteArray.empty,.int .i64 0,.int .i64 0,.int .i64 0,.int .i64 0,.int .i64 0,.int .i64 0] 53 (0,0))::(g,.cells #[.int .i64 a,.int .i64 b,.int .i64 c,.int .i64 d,.int .i64 f] 3 (0,0))::r),p.w.cell? ⟨g,1,none⟩=some (.int .i64 b):=fun p=>J0 p.h.own.tail.head 1
 have x2:∀p:InW w0 [] ((w.heap.size,.cells #[.string ByteArray.empty,.int .i64 0,.int .i64 0,.int .i64 0,.int .i64 0,.int .i64 0,.int .i64 0] 53 (0,0))::(g,.cells #[.int .i64 a,.int .i64 b,.int .i64 c,.int .i64 d,.int .i64 f] 3 (0,0))::r),p.w.cell? ⟨g,2,none⟩=some (.int .i64 c):=fun p=>J0 p.h.own.tail.head 2
 have x3:∀p:InW w0 [] ((w.heap.size,.cells #[.string ByteArray.empty,.int .i64 0,.int .i64 0,.int .i64 0,.int .i64 0,.int .i64 0,.int .i64 0] 53 (0,0))::(g,.cells #[.int .i64 a,.int .i64 b,.int .i64 c,.int .i64 d,.int .i64 f] 3 (0,0))::r),p.w.cell? ⟨g,3,none⟩=some (.int .i64 d):=fun p=>J0 p.h.own.tail.head 3
 have x4:∀p:InW w0 [] ((w.heap.size,.cells #[.string ByteArray.empty,.int .i64 0,.int .i64 0,.int .i64 0,.int .i64 0,.int .i64 0,.int .i64 0] 53 (0,0))::(g,.cells #[.int .i64 a,.int .i64 b,.int .i64 c,.int .i64 d,.int .i64 f] 3 (0,0))::r),p.w.cell? ⟨g,4,none⟩=some (.int .i64 f):=fun p=>J0 p.h.own.tail.head 4
 replace S1:=hid S1;clear hS;go_enter Tryz.func81,Tryz.ntmps81;go_wp2_with fail;refine Jx 18 S1.out (by kernel_rfl) (by kernel_rfl) (fun hne=>?_)
 simp only[List.take_succ_cons,List.take_zero,List.drop_succ_cons,List.drop_zero];repeat (go_big_quiet_step (fail))
 refine J17 fun w2 S2=>?_
 clear x0 x1 x2 x3 x4 hne S1;have hb:=S2.own.head;obtain⟨y0,hy0⟩:∃x,w2.cell? ⟨w.heap.size,0,none⟩=some x:=⟨_,J0 hb 0⟩
 obtain⟨y1,hy1⟩:∃x,w2.cell? ⟨w.heap.size,1,none⟩=some x:=⟨_,J0 hb 1⟩
 obtain⟨y2,hy2⟩:∃x,w2.cell? ⟨w.heap.size,2,none⟩=some x:=⟨_,J0 hb 2⟩
 obtain⟨y3,hy3⟩:∃x,w2.cell? ⟨w.heap.size,3,none⟩=some x:=⟨_,J0 hb 3⟩
 obtain⟨y4,hy4⟩:∃x,w2.cell? ⟨w.heap.size,4,none⟩=some x:=⟨_,J0 hb 4⟩
 obtain⟨y5,hy5⟩:∃x,w2.cell? ⟨w.heap.size,5,none⟩=some x:=⟨_,J0 hb 5⟩
 obtain⟨y6,hy6⟩:∃x,w2.cell? ⟨w.heap.size,6,none⟩=some x:=⟨_,J0 hb 6⟩
 have fz:∀j,w2.frozen? ⟨w.heap.size,j,none⟩=false:=fun j=>J6 hb j
 have hlt:=Jc hb;have hlast:=hid ((((((((S2.set 0 (.string name)).set 1 (.int .i64 kind)).set 2 (.int .i64 a)).set 3 (.int .i64 b)).set 4 (.int .i64 c)).set 5 (.int .i64 d)).set 6 (.int .i64 f)).less ((List.sublist_cons_self _ _).trans (List.sublist_cons_self _ _)));clear hb S2;go_wp2_with fail;refine bodyPost_ret (v:=Jy name kind a b c d f) (by simp[results,Tryz.results81,go_sem,Jy, *]<;>rfl) rfl ?_
 exact⟨rfl,hlast.out⟩
structure Sp where
 name:ByteArray
 kind:Int
 least:Int
 most:Int
 first:Int
 last:Int
 step:Int
def Sp.val (s:Sp):Value:=Jy s.name s.kind s.least s.most s.first s.last s.step
def Sp.cells (s:Sp):List Value:=[.string s.name,.int .i64 s.kind,.int .i64 s.least,.int .i64 s.most,.int .i64 s.first,.int .i64 s.last,.int .i64 s.step]
def J1k (l:List Sp):List Value:=l.flatMap Sp.cells
def J1l:List Sp:=
 [⟨⟨#[71,69,84]⟩,1,2,2,1,1,1⟩,
  ⟨⟨#[83,69,84]⟩,2,3,64,1,1,1⟩,
  ⟨⟨#[83,69,84,78,88]⟩,2,3,3,1,1,1⟩,
  ⟨⟨#[71,69,84,83,69,84]⟩,2,3,3,1,1,1⟩,
  ⟨⟨#[71,69,84,68,69,76]⟩,2,2,2,1,1,1⟩,
  ⟨⟨#[77,71,69,84]⟩,1,2,64,1,(-1),1⟩,
  ⟨⟨#[77,83,69,84]⟩,2,3,64,1,(-1),2⟩,
  ⟨⟨#[73,78,67,82]⟩,2,2,2,1,1,1⟩,
  ⟨⟨#[68,69,67,82]⟩,2,2,2,1,1,1⟩,
  ⟨⟨#[73,78,67,82,66,89]⟩,2,3,3,1,1,1⟩,
  ⟨⟨#[68,69,67,82,66,89]⟩,2,3,3,1,1,1⟩,
  ⟨⟨#[73,78,67,82,66,89,70,76,79,65,84]⟩,2,3,3,1,1,1⟩,
  ⟨⟨#[65,80,80,69,78,68]⟩,2,3,3,1,1,1⟩,
  ⟨⟨#[83,84,82,76,69,78]⟩,1,2,2,1,1,1⟩,
  ⟨⟨#[72,83,69,84]⟩,2,4,64,1,1,1⟩,
  ⟨⟨#[72,71,69,84]⟩,1,3,3,1,1,1⟩,
  ⟨⟨#[72,68,69,76]⟩,2,3,64,1,1,1⟩,
  ⟨⟨#[72,71,69,84,65,76,76]⟩,1,2,2,1,1,1⟩,
  ⟨⟨#[72,76,69,78]⟩,1,2,2,1,1,1⟩,
  ⟨⟨#[72,69,88,73,83,84,83]⟩,1,3,3,1,1,1⟩,
  ⟨⟨#[72,77,71,69,84]⟩,1,3,64,1,1,1⟩,
  ⟨⟨#[72,73,78,67,82,66,89]⟩,2,4,4,1,1,1⟩,
  ⟨⟨#[68,69,76]⟩,2,2,64,1,(-1),1⟩,
  ⟨⟨#[85,78,76,73,78,75]⟩,2,2,64,1,(-1),1⟩,
  ⟨⟨#[69,88,73,83,84,83]⟩,1,2,64,1,(-1),1⟩,
  ⟨⟨#[69,88,80,73,82,69]⟩,2,3,3,1,1,1⟩,
  ⟨⟨#[80,69,88,80,73,82,69]⟩,2,3,3,1,1,1⟩,
  ⟨⟨#[80,69,82,83,73,83,84]⟩,2,2,2,1,1,1⟩,
  ⟨⟨#[84,84,76]⟩,1,2,2,1,1,1⟩,
  ⟨⟨#[80,84,84,76]⟩,1,2,2,1,1,1⟩,
  ⟨⟨#[84,89,80,69]⟩,1,2,2,1,1,1⟩,
  ⟨⟨#[70,76,85,83,72,65,76,76]⟩,2,1,1,0,0,0⟩,
  ⟨⟨#[68,66,83,73,90,69]⟩,1,1,1,0,0,0⟩,
  ⟨⟨#[72,69,76,76,79]⟩,3,1,2,0,0,0⟩,
  ⟨⟨#[80,73,78,71]⟩,3,1,2,0,0,0⟩,
  ⟨⟨#[69,67,72,79]⟩,3,2,2,0,0,0⟩,
  ⟨⟨#[82,69,83,69,84]⟩,3,1,1,0,0,0⟩,
  ⟨⟨#[81,85,73,84]⟩,3,1,1,0,0,0⟩,
  ⟨⟨#[67,76,73,69,78,84]⟩,3,2,64,0,0,0⟩]
theorem Jjf:(Tryz.prog.info? 53).map (fun i=>(i.zero,i.size,i.bytes))=some (some (.agg #[.string ByteArray.empty,.int .i64 0,.int .i64 0,.int .i64 0,.int .i64 0,.int .i64 0,.int .i64 0]),7,64):=by kernel_rfl
def Jcp:List (Nat×Value):=((J1l.map Sp.val).zipIdx 0).map fun x=>(x.2,x.1)
theorem Jke:Instr.fill (fun i=>some (i*7,7)) ((Array.range (39*7)).map ((Value.agg #[.string ByteArray.empty,.int .i64 0,.int .i64 0,.int .i64 0,.int .i64 0,.int .i64 0,.int .i64 0]).cells[·%(Value.agg #[.string ByteArray.empty,.int .i64 0,.int .i64 0,.int .i64 0,.int .i64 0,.int .i64 0,.int .i64 0]).cells.size]!)) Jcp=some (J1k J1l).toArray:=by kernel_rfl
theorem J8c {ops:Array Oper} {rest:List Oper} {o:Oper} {a:Act} {Q:Exit->Act->World->Prop} (hg:o.guard=none) (parts:Array (Nat×Operand)) (ho:o.op= .buildSlice 126 39 parts)
 (hp:(parts.map fun (i,x)=>(i,a.eval x)).toList=Jcp)
 (h:wpList Tryz.prog ops Q rest (a.put o.dst (.slice (some ⟨w.heap.size,0,none⟩) 39 39)) (w.alloc (.cells (J1k J1l).toArray 53))):wpList Tryz.prog ops Q (o::rest) a w:=by
  obtain⟨i,hi,hz,hsz,hby⟩:=info_parts Jjf
  refine wpList_buildSlice hg 126 53 39 parts ho (J1k J1l).toArray i _ Tryz.underlying126 hi hz (by rw[hsz];decide) (by rw[hsz];decide) ?_ h
  rw[hp,hsz];exact Jke
def Jka (w0:World) (r:Hp) (e:Ending) (w':World):Prop:=
 ∃b,e= .returned (.slice (some ⟨b,0,none⟩) 39 39)/\J1 w0 [] w' ((b,.cells (J1k J1l).toArray 53 (0,0))::r)
theorem Jg (hS:J1 w0 [] w r) (name:ByteArray) (kind a b c d f:Int):
 Calls Tryz.prog 81 #[.string name,.int .i64 kind,.slice (some ⟨w.heap.size,0,none⟩) 5 5] (w.alloc (.cells #[.int .i64 a,.int .i64 b,.int .i64 c,.int .i64 d,.int .i64 f] 3)) (Ji w0 r (Jy name kind a b c d f)):=
 (Jjg (hS.alloc _) name kind).mono fun e w' h=>h
theorem Jkf (hS:J1 w0 [] w r):
 Calls Tryz.prog 48 #[] w (Jka w0 r):=by
 have S0:=hid hS;clear hS;go_enter Tryz.func48,Tryz.ntmps48;go_wp2_with fail;refine(Jg S0.out _ _ _ _ _ _ _).mono ?_
 rintro e w1 ⟨rfl,S1⟩;replace S1:=hid S1;clear S0;go_wp2_with fail;refine(Jg S1.out _ _ _ _ _ _ _).mono ?_
 rintro e w2 ⟨rfl,S2⟩;replace S2:=hid S2;clear S1;go_wp2_with fail;refine(Jg S2.out _ _ _ _ _ _ _).mono ?_
 rintro e w3 ⟨rfl,S3⟩;replace S3:=hid S3;clear S2;go_wp2_with fail;refine(Jg S3.out _ _ _ _ _ _ _).mono ?_
 rintro e w4 ⟨rfl,S4⟩;replace S4:=hid S4;clear S3;go_wp2_with fail;refine(Jg S4.out _ _ _ _ _ _ _).mono ?_
 rintro e w5 ⟨rfl,S5⟩;replace S5:=hid S5;clear S4;go_wp2_with fail;refine(Jg S5.out _ _ _ _ _ _ _).mono ?_
 rintro e w6 ⟨rfl,S6⟩;replace S6:=hid S6;clear S5;go_wp2_with fail;refine(Jg S6.out _ _ _ _ _ _ _).mono ?_
 rintro e w7 ⟨rfl,S7⟩;replace S7:=hid S7;clear S6;go_wp2_with fail;refine(Jg S7.out _ _ _ _ _ _ _).mono ?_
 rintro e w8 ⟨rfl,S8⟩;replace S8:=hid S8;clear S7;go_wp2_with fail;refine(Jg S8.out _ _ _ _ _ _ _).mono ?_
 rintro e w9 ⟨rfl,S9⟩;replace S9:=hid S9;clear S8;go_wp2_with fail;refine(Jg S9.out _ _ _ _ _ _ _).mono ?_
 rintro e w10 ⟨rfl,S10⟩;replace S10:=hid S10;clear S9;go_wp2_with fail;refine(Jg S10.out _ _ _ _ _ _ _).mono ?_
 rintro e w11 ⟨rfl,S11⟩;replace S11:=hid S11;clear S10;go_wp2_with fail;refine(Jg S11.out _ _ _ _ _ _ _).mono ?_
 rintro e w12 ⟨rfl,S12⟩;replace S12:=hid S12;clear S11;go_wp2_with fail;refine(Jg S12.out _ _ _ _ _ _ _).mono ?_
 rintro e w13 ⟨rfl,S13⟩;replace S13:=hid S13;clear S12;go_wp2_with fail;refine(Jg S13.out _ _ _ _ _ _ _).mono ?_
 rintro e w14 ⟨rfl,S14⟩;replace S14:=hid S14;clear S13;go_wp2_with fail;refine(Jg S14.out _ _ _ _ _ _ _).mono ?_
 rintro e w15 ⟨rfl,S15⟩;replace S15:=hid S15;clear S14;go_wp2_with fail;refine(Jg S15.out _ _ _ _ _ _ _).mono ?_
 rintro e w16 ⟨rfl,S16⟩;replace S16:=hid S16;clear S15;go_wp2_with fail;refine(Jg S16.out _ _ _ _ _ _ _).mono ?_
 rintro e w17 ⟨rfl,S17⟩;replace S17:=hid S17;clear S16;go_wp2_with fail;refine(Jg S17.out _ _ _ _ _ _ _).mono ?_
 rintro e w18 ⟨rfl,S18⟩;replace S18:=hid S18;clear S17;go_wp2_with fail;refine(Jg S18.out _ _ _ _ _ _ _).mono ?_
 rintro e w19 ⟨rfl,S19⟩;replace S19:=hid S19;clear S18;go_wp2_with fail;refine(Jg S19.out _ _ _ _ _ _ _).mono ?_
 rintro e w20 ⟨rfl,S20⟩;replace S20:=hid S20;clear S19;go_wp2_with fail;refine(Jg S20.out _ _ _ _ _ _ _).mono ?_
 rintro e w21 ⟨rfl,S21⟩;replace S21:=hid S21;clear S20;go_wp2_with fail;refine(Jg S21.out _ _ _ _ _ _ _).mono ?_
 rintro e w22 ⟨rfl,S22⟩;replace S22:=hid S22;clear S21;go_wp2_with fail;refine(Jg S22.out _ _ _ _ _ _ _).mono ?_
 rintro e w23 ⟨rfl,S23⟩;replace S23:=hid S23;clear S22;go_wp2_with fail;refine(Jg S23.out _ _ _ _ _ _ _).mono ?_
 rintro e w24 ⟨rfl,S24⟩;replace S24:=hid S24;clear S23;go_wp2_with fail;refine(Jg S24.out _ _ _ _ _ _ _).mono ?_
 rintro e w25 ⟨rfl,S25⟩;replace S25:=hid S25;clear S24;go_wp2_with fail;refine(Jg S25.out _ _ _ _ _ _ _).mono ?_
 rintro e w26 ⟨rfl,S26⟩;replace S26:=hid S26;clear S25;go_wp2_with fail;refine(Jg S26.out _ _ _ _ _ _ _).mono ?_
 rintro e w27 ⟨rfl,S27⟩;replace S27:=hid S27;clear S26;go_wp2_with fail;refine(Jg S27.out _ _ _ _ _ _ _).mono ?_
 rintro e w28 ⟨rfl,S28⟩;replace S28:=hid S28;clear S27;go_wp2_with fail;refine(Jg S28.out _ _ _ _ _ _ _).mono ?_
 rintro e w29 ⟨rfl,S29⟩;replace S29:=hid S29;clear S28;go_wp2_with fail;refine(Jg S29.out _ _ _ _ _ _ _).mono ?_
 rintro e w30 ⟨rfl,S30⟩;replace S30:=hid S30;clear S29;go_wp2_with fail;refine(Jg S30.out _ _ _ _ _ _ _).mono ?_
 rintro e w31 ⟨rfl,S31⟩;replace S31:=hid S31;clear S30;go_wp2_with fail;refine(Jg S31.out _ _ _ _ _ _ _).mono ?_
 rintro e w32 ⟨rfl,S32⟩;replace S32:=hid S32;clear S31;go_wp2_with fail;refine(Jg S32.out _ _ _ _ _ _ _).mono ?_
 rintro e w33 ⟨rfl,S33⟩;replace S33:=hid S33;clear S32;go_wp2_with fail;refine(Jg S33.out _ _ _ _ _ _ _).mono ?_
 rintro e w34 ⟨rfl,S34⟩;replace S34:=hid S34;clear S33;go_wp2_with fail;refine(Jg S34.out _ _ _ _ _ _ _).mono ?_
 rintro e w35 ⟨rfl,S35⟩;replace S35:=hid S35;clear S34;go_wp2_with fail;refine(Jg S35.out _ _ _ _ _ _ _).mono ?_
 rintro e w36 ⟨rfl,S36⟩;replace S36:=hid S36;clear S35;go_wp2_with fail;refine(Jg S36.out _ _ _ _ _ _ _).mono ?_
 rintro e w37 ⟨rfl,S37⟩;replace S37:=hid S37;clear S36;go_wp2_with fail;refine(Jg S37.out _ _ _ _ _ _ _).mono ?_
 rintro e w38 ⟨rfl,S38⟩;replace S38:=hid S38;clear S37;go_wp2_with fail;refine(Jg S38.out _ _ _ _ _ _ _).mono ?_
 rintro e w39 ⟨rfl,S39⟩;replace S39:=hid S39;clear S38;go_wp2_with (refine J8c rfl _ rfl ?hp ?_;(case hp=>kernel_rfl))
 go_ret;exact⟨_,rfl,S39.out.alloc _⟩
def upc (c:UInt8):UInt8:=if 97<=c.toNat/\c.toNat<=122 then UInt8.ofNat (c.toNat - 32) else c
def J0x (s:ByteArray):ByteArray:=⟨(s.data.toList.map upc).toArray⟩
theorem Kb (s:ByteArray):(J0x s).size=s.size:=by
 show(s.data.toList.map upc).toArray.size=s.data.size
 rw[List.size_toArray,List.length_map,Array.length_toList]
def J56 (l:List UInt8) (n:Nat):List UInt8:=(l.take n).map upc++l.drop n
def J1n (l:List UInt8) (z:List Value):Array Value:=((l.map fun b:UInt8=>Value.int .u8 (b.toNat:Int))++z).toArray
theorem Jhk (l:List UInt8):J56 l 0=l:=by simp[J56]
theorem Jjw (l:List UInt8):J56 l l.length=l.map upc:=by simp[J56]
theorem Je9 (l:List UInt8) (n:Nat):(J56 l n).length=l.length:=by simp[J56];omega
theorem Jfx {n:Nat} (h:l[n]? =some c):(J56 l n)[n]? =some c:=by
 have hn:=(List.getElem?_eq_some_iff.1 h).1;rw[J56,List.getElem?_append_right (by simp;omega)]
 simp[Nat.min_eq_left (Nat.le_of_lt hn),h]
theorem Jb5 {n:Nat} (h:l[n]? =some c):J56 l (n+1)=(J56 l n).set n (upc c):=by
 have hn:=(List.getElem?_eq_some_iff.1 h).1
 have hd:l.drop n=c::l.drop (n+1):=by
  rw[List.drop_eq_getElem_cons hn];have:=(List.getElem?_eq_some_iff.1 h).2
  rw[this]
 unfold J56;rw[hd,List.set_append_right _ _ (by simp;omega)]
 simp only[List.length_map,List.length_take,Nat.min_eq_left (Nat.le_of_lt hn),Nat.sub_self,List.set_cons_zero];rw[List.take_add_one,h];simp
theorem Jhj {n:Nat} (h:l[n]? =some c) (hc:upc c=c):J56 l (n+1)=J56 l n:=by
 rw[Jb5 h,hc];have hg:=Jfx h;apply List.ext_getElem?
 intro i
 rw[List.getElem?_set];split
 ·rename_i e;subst e;rw[hg];have:=(List.getElem?_eq_some_iff.1 hg).1;simp[this]
 ·rfl
theorem J9w {z:List Value} {n:Nat} (h:l[n]? =some c):(J1n l z)[n]? =some (.int .u8 (c.toNat:Int)):=by
 have hn:=(List.getElem?_eq_some_iff.1 h).1;rw[J1n,List.getElem?_toArray,List.getElem?_append_left (by simpa using hn),List.getElem?_map,h]
 rfl
theorem Je8 (l:List UInt8) (z:List Value) (n:Nat) (c:UInt8) (hn:n<l.length):(J1n l z).setIfInBounds n (.int .u8 (c.toNat:Int))=J1n (l.set n c) z:=by
 unfold J1n;rw[List.setIfInBounds_toArray,List.set_append_left _ _ (by simpa using hn),List.map_set]
theorem Jct (s:ByteArray) (cap:Nat):bytesRow s cap=J1n s.data.toList (List.replicate (cap - s.size) (.int .u8 0)):=by
 unfold bytesRow J1n;apply Array.toList_inj.1
 simp
theorem Jca (l:List UInt8) (z:List Value):(J1n l z).size=l.length+z.length:=by simp[J1n]
structure Jnu (wr:World) (g n:Nat) (c:UInt8):Prop where
 at_:wr.cell? ⟨g,n,none⟩=some (.int .u8 (c.toNat:Int))
 fz:wr.frozen? ⟨g,n,none⟩=false
theorem Jnw {wr:World} {z:List Value} {n m:Nat} (hS:J1 w0 [] wr ((g,.cells (J1n (J56 l n) z) 5 (m,m+1))::r)) (hm:l.length<=m) (h:l[n]? =some c):Jnu wr g n c:=by
 have hh:=hS.own.head;have hn:=(List.getElem?_eq_some_iff.1 h).1;refine⟨by rw[J0 hh,J9w (Jfx h)],?_⟩
 simp[World.frozen?,hh];omega
theorem J5m (hS:J1 w0 [] w r) (s:ByteArray) (hs:s.size<=1099511627776):
 Calls Tryz.prog 22 #[.string s] w (Ji w0 r (.string (J0x s))):=by
 have hcv:=run_bytes_of_string (P:=Tryz.prog) w 9 97 5 s Tryz.underlying9 Tryz.underlying97 Tryz.underlying5;rw[Jct,Jca] at hcv;generalize grownCap w s.size 0 5=cap at hcv;have hlen:s.data.toList.length=s.size:=Array.length_toList;generalize hz:(List.replicate (cap - s.size) (Value.int .u8 0))=z at hcv;generalize hm:s.data.toList.length+z.length=m at hcv;have S1:=hS.drew.alloc (.cells (J1n s.data.toList z) 5 (m,m+1));generalize hw1:w.drew.alloc (.cells (J1n s.data.toList z) 5 (m,m+1))=w1 at hcv S1;rw[show w.drew.heap.size=w.heap.size from rfl] at S1;generalize w.heap.size=g at hcv S1;rw[<-Jhk s.data.toList] at S1;replace S1:=hid S1;replace hm:Hid (s.data.toList.length<=m):=hid (by omega)
 replace hlen:=hid hlen;have hup:Hid (J0x s=⟨(J56 s.data.toList s.size).toArray⟩):=hid (by rw[<-hlen.out,Jjw];rfl)
 clear hz hw1 hS;go_enter Tryz.func22,Tryz.ntmps22;go_wp2_with fail;clear hcv;go_loopw [4,5,10] (fun i c k wr=>∃n:Nat,k= .int .i64 n/\n<=s.size/\Hid (J1 w0 [] wr ((g,.cells (J1n (J56 s.data.toList n) z) 5 (m,m+1))::r))) (fun i c k wr=>(s.size - intOf k).toNat)
 case atStart=>exact⟨0,rfl,Nat.zero_le _,S1⟩
 case round=>
  obtain⟨n,rfl,hn,S2⟩:=hrel
  by_cases hlt:n<s.size
  ·obtain⟨c,hc⟩:∃c,s.data.toList[n]? =some c:=⟨s.data.toList[n]'(by rw[hlen.out];exact hlt),List.getElem?_eq_getElem _⟩
   obtain⟨hat,fz⟩:=Jnw S2.out hm.out hc
   replace hc:=hid hc;by_cases h:97<=c.toNat/\c.toNat<=122
   ·obtain⟨h1,h2⟩:=h
    have hset:=(S2.out.set n (.int .u8 ((upc c).toNat:Int)));rw[Je8 _ _ _ _ (by rw[Je9,hlen.out];exact hlt),<-Jb5 hc.out] at hset
    have e:((upc c).toNat:Int)=(c.toNat:Int) - 97+65:=by
     unfold upc;rw[if_pos ⟨h1,h2⟩];rw[UInt8.toNat_ofNat'];omega
    rw[e] at hset;replace hset:=hid hset;clear e S2;go_wp2_with fail;go_roundw
    case rel=>exact⟨n+1,rfl,hlt,hset⟩
    case measure=>simp[intOf];omega
   ·have hsame:=S2.out
    rw[<-Jhj hc.out (by unfold upc;rw[if_neg h])] at hsame
    replace hsame:=hid hsame;clear S2;by_cases h1:97<=c.toNat
    ·have h2:¬c.toNat<=122:=fun e=>h ⟨h1,e⟩
     clear h;go_wp2_with fail;go_roundw
     case rel=>exact⟨n+1,rfl,hlt,hsame⟩
     case measure=>simp[intOf];omega
    ·clear h
     go_wp2_with fail;go_roundw
     case rel=>exact⟨n+1,rfl,hlt,hsame⟩
     case measure=>simp[intOf];omega
  ·obtain rfl:n=s.size:=by omega
   have hback:=run_convert_bytes_back (P:=Tryz.prog) wr 97 9 5 ⟨g,0,none⟩ cap (J56 s.data.toList s.size) Tryz.underlying97 Tryz.underlying5 Tryz.underlying9 (fun j hj=>by
    have hh:=S2.out.own.head;rw[J33,Nat.zero_add,J0 hh,J9w (List.getElem?_eq_getElem hj)])
   rw[Je9,hlen.out,<-hup.out] at hback;go_wp2_with fail;go_ret;exact⟨rfl,S2.out.less (List.sublist_cons_self _ _)⟩
theorem J9s:∀(l:List Sp) (i:Nat) (s:Sp),l[i]? =some s->∀j v,s.cells[j]? =some v->(J1k l)[i*7+j]? =some v
 |[],i,s,h,_,_,_=>by simp at h
 |t::l,0,s,h,j,v,hj=>by
  simp at h;subst h
  have hlt:j<t.cells.length:=(List.getElem?_eq_some_iff.1 hj).1;show(t.cells++J1k l)[0*7+j]? =some v
  rw[List.getElem?_append_left (by omega)]
  simpa using hj
 |t::l,i+1,s,h,j,v,hj=>by
  have:=J9s l i s (by simpa using h) j v hj
  show(t.cells++J1k l)[(i+1)*7+j]? =some v
  have ht:t.cells.length=7:=rfl;rw[List.getElem?_append_right (by omega),ht,show(i+1)*7+j - 7=i*7+j by omega]
  exact this
structure Jnt (w:World) (g i:Nat) (s:Sp):Prop where
 c0:w.cell? ⟨g,i*7,none⟩=some (.string s.name)
 c1:w.cell? ⟨g,i*7+1,none⟩=some (.int .i64 s.kind)
 c2:w.cell? ⟨g,i*7+2,none⟩=some (.int .i64 s.least)
 c3:w.cell? ⟨g,i*7+3,none⟩=some (.int .i64 s.most)
 c4:w.cell? ⟨g,i*7+4,none⟩=some (.int .i64 s.first)
 c5:w.cell? ⟨g,i*7+5,none⟩=some (.int .i64 s.last)
 c6:w.cell? ⟨g,i*7+6,none⟩=some (.int .i64 s.step)
theorem Jng {i:Nat} {s:Sp} {l:List Sp} (h:w.heap[g]? =some (.cells (J1k l).toArray t (0,0))) (hs:l[i]? =some s):Jnt w g i s:=by
 have k:∀j v,s.cells[j]? =some v->w.cell? ⟨g,i*7+j,none⟩=some v:=fun j v hj=>by
  rw[J0 h,List.getElem?_toArray];exact J9s l i s hs j v hj
 exact⟨k 0 _ rfl,k 1 _ rfl,k 2 _ rfl,k 3 _ rfl,k 4 _ rfl,k 5 _ rfl,k 6 _ rfl⟩
theorem Jgo {cb:Nat} (hS:J1 w0 [] w ((cb,.cells #[.string name] 9 (0,0))::r)) (s:Sp):
 Calls Tryz.prog 50 #[s.val,ptr cb] w (Ji w0 ((cb,.cells #[.string name] 9 (0,0))::r) (.bool (decide (s.name=name)))):=by
 have S1:=hid ((hS.alloc (.cells #[.string s.name,.int .i64 s.kind,.int .i64 s.least,.int .i64 s.most,.int .i64 s.first,.int .i64 s.last,.int .i64 s.step] 53)).less (List.sublist_cons_self _ _));have c0:w.cell? ⟨cb,0,none⟩=some (.string name):=J0 hS.own.head 0;have hcb:=Jc hS.own.head
 have e:Hid ((s.name.toList==name.toList)=decide (s.name=name)):=hid (by
  by_cases h:s.name=name
  ·rw[decide_eq_true h];exact Jc2 h
  ·rw[decide_eq_false h];exact J6o h)
 clear hS;go_enter Tryz.func50,Tryz.ntmps50;unfold Sp.val Jy;go_wp2_with fail;go_ret;rw[e.out];exact⟨rfl,S1.out⟩
def J7o (l:List Sp) (name:ByteArray):Int:=match l.findIdx? (fun s=>decide (s.name=name)) with
 |some i=>(i:Int)
 |none=> -1
def Jen (cb:Nat):Value:=.func (.func 50) #[] #[ptr cb]
theorem Jkq {l:List Sp} {k:Nat} {s:Sp} (h:∀i<k,∀t,l[i]? =some t->t.name≠name) (hs:l[k]? =some s) (he:s.name=name):J7o l name=k:=by
 unfold J7o
 have:l.findIdx? (fun s=>decide (s.name=name))=some k:=by
  rw[List.findIdx?_eq_some_iff_getElem];obtain⟨hk,rfl⟩:=List.getElem?_eq_some_iff.1 hs
  exact⟨hk,by simpa using he,fun j hj=>by simpa using h j hj _ (List.getElem?_eq_getElem (by omega))⟩
 rw[this]
theorem Jih {l:List Sp} (h:∀i<l.length,∀t,l[i]? =some t->t.name≠name):J7o l name= -1:=by
 unfold J7o
 have:l.findIdx? (fun s=>decide (s.name=name))=none:=by
  rw[List.findIdx?_eq_none_iff];intro x hx
  obtain⟨i,hi,rfl⟩:=List.mem_iff_getElem.1 hx
  simpa using h i hi _ (List.getElem?_eq_getElem hi)
 rw[this]
theorem Jgi {cb:Nat} {l:List Sp} (hl:l.length<=1000) (hS:J1 w0 [] w ((cb,.cells #[.string name] 9 (0,0))::(g,.cells (J1k l).toArray 53 (0,0))::r)):
 Calls Tryz.prog 49 #[.slice (some ⟨g,0,none⟩) l.length l.length,Jen cb] w
  (Ji w0 ((cb,.cells #[.string name] 9 (0,0))::(g,.cells (J1k l).toArray 53 (0,0))::r) (.int .i64 (J7o l name))):=by
 replace hS:=hid hS;go_enter Tryz.func49,Tryz.ntmps49;unfold Jen;go_wp2_with fail;go_loopw [5,8] (fun i k wr=>∃n:Nat,k= .int .i64 n/\n<=l.length/\Hid (∀i<n,∀t,l[i]? =some t->t.name≠name)/\Hid (J1 w0 [] wr ((cb,.cells #[.string name] 9 (0,0))::(g,.cells (J1k l).toArray 53 (0,0))::r))) (fun i k wr=>(l.length - intOf k).toNat)
 case atStart=>exact⟨0,rfl,Nat.zero_le _,hid (fun i hi=>by omega),hS⟩
 case round=>
  obtain⟨n,rfl,hn,hno,S2⟩:=hrel
  clear hS;by_cases hlt:n<l.length
  ·obtain⟨s,hs⟩:∃s,l[n]? =some s:=⟨l[n]'hlt,List.getElem?_eq_getElem _⟩
   obtain⟨c0,c1,c2,c3,c4,c5,c6⟩:=Jng S2.out.own.tail.head hs
   have hcall:=hid (Jgo S2.out s);replace hs:=hid hs;by_cases he:s.name=name
   ·have hdone:=hid (Jkq hno.out hs.out he)
    rw[decide_eq_true he] at hcall;replace he:=hid he;unfold Sp.val Jy at hcall;go_wp2_with fail;refine hcall.out.mono ?_;rintro e w2 ⟨rfl,S3⟩;replace S3:=hid S3;clear hcall c0 c1 c2 c3 c4 c5 c6;go_wp2_with fail;go_ret;rw[hdone.out];exact⟨rfl,S3.out⟩
   ·have hno2:Hid (∀i<n+1,∀t,l[i]? =some t->t.name≠name):=hid (fun i hi t ht=>by
     by_cases e:i=n
     ·subst e;rw[hs.out] at ht;injection ht with ht;subst ht;exact he
     ·exact hno.out i (by omega) t ht)
    rw[decide_eq_false he] at hcall;replace he:=hid he;unfold Sp.val Jy at hcall;go_wp2_with fail;refine hcall.out.mono ?_;rintro e w2 ⟨rfl,S3⟩;replace S3:=hid S3;clear hcall c0 c1 c2 c3 c4 c5 c6;go_wp2_with fail;go_roundw
    case rel=>exact⟨n+1,rfl,hlt,hno2,S3⟩
    case measure=>simp[intOf];omega
  ·obtain rfl:n=l.length:=by omega
   have hdone:=hid (Jih hno.out);go_wp2_with fail;go_ret;rw[hdone.out];exact⟨rfl,S2.out⟩
def J0d:Sp:=⟨ByteArray.empty,0,0,0,0,0,0⟩
def J7z (word:ByteArray):Option Sp:=J1l.find? (fun s=>decide (s.name=J0x word))
theorem Jig (l:List Sp) (name:ByteArray):(∃i s,J7o l name=((i:Nat):Int)/\l[i]? =some s/\i<l.length/\l.find? (fun s=>decide (s.name=name))=some s)\/(J7o l name= -1/\l.find? (fun s=>decide (s.name=name))=none):=by
 unfold J7o;cases h:l.findIdx? (fun s=>decide (s.name=name)) with
 |none=>
  right
  refine⟨rfl,?_⟩
  rw[List.findIdx?_eq_none_iff] at h;rw[List.find?_eq_none];intro x hx;simpa using h x hx
 |some i=>
  left
  obtain⟨hi,h1,h2⟩:=List.findIdx?_eq_some_iff_getElem.1 h
  refine⟨i,l[i],rfl,List.getElem?_eq_getElem hi,hi,?_⟩
  rw[List.find?_eq_some_iff_getElem];exact⟨h1,i,hi,rfl,fun j hj=>by have:=h2 j hj;simpa using this⟩
def Jeg (w0:World) (r:Hp) (o:Option Sp) (e:Ending) (w':World):Prop:=e= .returned (.tuple #[(o.getD J0d).val,.bool o.isSome])/\J1 w0 [] w' r
structure Jlt (w:World) (b:Nat):Prop where
 c0:∃x,w.cell? ⟨b,0,none⟩=some x
 c1:∃x,w.cell? ⟨b,1,none⟩=some x
 c2:∃x,w.cell? ⟨b,2,none⟩=some x
 c3:∃x,w.cell? ⟨b,3,none⟩=some x
 c4:∃x,w.cell? ⟨b,4,none⟩=some x
 c5:∃x,w.cell? ⟨b,5,none⟩=some x
 c6:∃x,w.cell? ⟨b,6,none⟩=some x
 fz:∀j,w.frozen? ⟨b,j,none⟩=false
 lt:b<w.heap.size
theorem J6z {o6:Value} (h:w.heap[b]? =some (.cells #[o0,o1,o2,o3,o4,o5,o6] t (0,0))):Jlt w b:=
 ⟨⟨_,J0 h 0⟩,⟨_,J0 h 1⟩,⟨_,J0 h 2⟩,⟨_,J0 h 3⟩,⟨_,J0 h 4⟩,⟨_,J0 h 5⟩,⟨_,J0 h 6⟩,fun j=>J6 h j,Jc h⟩
theorem set7 (o0 o1 o2 o3 o4 o5 o6 v0 v1 v2 v3 v4 v5 v6:Value):(((((((#[o0,o1,o2,o3,o4,o5,o6]:Array Value).setIfInBounds 0 v0).setIfInBounds 1 v1).setIfInBounds 2 v2).setIfInBounds 3 v3).setIfInBounds 4 v4).setIfInBounds 5 v5).setIfInBounds 6 v6= #[v0,v1,v2,v3,v4,v5,v6]:=by kernel_rfl
theorem J1.setSp {l:Hp} {o6:Value} (h:J1 w0 l w ((b,.cells #[o0,o1,o2,o3,o4,o5,o6] t (0,0))::r)) (s:Sp):
 J1 w0 l (((((((w.setCell ⟨b,0,none⟩ (.string s.name)).setCell ⟨b,1,none⟩ (.int .i64 s.kind)).setCell ⟨b,2,none⟩ (.int .i64 s.least)).setCell ⟨b,3,none⟩ (.int .i64 s.most)).setCell ⟨b,4,none⟩ (.int .i64 s.first)).setCell ⟨b,5,none⟩ (.int .i64 s.last)).setCell ⟨b,6,none⟩ (.int .i64 s.step))
  ((b,.cells #[.string s.name,.int .i64 s.kind,.int .i64 s.least,.int .i64 s.most,.int .i64 s.first,.int .i64 s.last,.int .i64 s.step] t (0,0))::r):=by
 have k:=((((((h.set 0 (.string s.name)).set 1 (.int .i64 s.kind)).set 2 (.int .i64 s.least)).set 3 (.int .i64 s.most)).set 4 (.int .i64 s.first)).set 5 (.int .i64 s.last)).set 6 (.int .i64 s.step);rw[set7] at k;exact k
theorem Jhl (hS:J1 w0 [] w r) (word:ByteArray) (hw:word.size<=1099511627776):
 Calls Tryz.prog 31 #[.string word] w (Jeg w0 r (J7z word)):=by
 have S1:=hS.alloc (.cells #[.string ByteArray.empty,.int .i64 0,.int .i64 0,.int .i64 0,.int .i64 0,.int .i64 0,.int .i64 0] 53);have hall:=hid (Jkf S1);have hlen:J1l.length=39:=rfl;replace hlen:=hid hlen;clear hS S1;go_enter Tryz.func31,Tryz.ntmps31;go_wp2_with fail;generalize w.heap.size=b at hall⊢;refine hall.out.mono ?_;rintro e w1 ⟨g,rfl,S2⟩;have hup:=hid (J5m S2 word hw);have hlt:=Jc S2.own.tail.head;clear hall S2;go_wp2_with fail;refine hup.out.mono ?_;rintro e w2 ⟨rfl,S3⟩;have S4:=S3.alloc (.cells #[.string (J0x word)] 9);have hidx:=hid (Jgi (l:=J1l) (name:=J0x word) (by rw[hlen.out];omega) S4)
 rw[hlen.out] at hidx;unfold Jen at hidx;clear hup S3 S4;go_wp2_with fail;refine hidx.out.mono ?_;rintro e w3 ⟨rfl,S5⟩;clear hidx;obtain⟨⟨x0,hx0⟩,⟨x1,hx1⟩,⟨x2,hx2⟩,⟨x3,hx3⟩,⟨x4,hx4⟩,⟨x5,hx5⟩,⟨x6,hx6⟩,fz,hb⟩:=J6z S5.own.tail.tail.head
 rcases Jig J1l (J0x word) with⟨i,s,hi,hs,hlt2,hf⟩|⟨hi,hf⟩
 ·obtain⟨c0,c1,c2,c3,c4,c5,c6⟩:=Jng S5.own.tail.head hs
  have hgb:g≠b:=by
   have:=S5.own.tail.nd
   rw[J0v,List.nodup_cons] at this;exact fun e=>this.1 (by subst e;simp)
  have S6:=hid (((S5.permR (l2:=(b,.cells #[.string ByteArray.empty,.int .i64 0,.int .i64 0,.int .i64 0,.int .i64 0,.int .i64 0,.int .i64 0] 53 (0,0))::((w2.heap.size,.cells #[.string (J0x word)] 9 (0,0))::(g,.cells (J1k J1l).toArray 53 (0,0))::r)) (J2 fun f=>by
   simp only[List.map_cons,List.sum_cons];omega)).setSp s).less ((List.sublist_cons_self _ _).trans ((List.sublist_cons_self _ _).trans (List.sublist_cons_self _ _))))
  have hdone:Hid (J7z word=some s):=hid hf;have hgb2:b≠g:=fun e=>hgb e.symm
  rw[hi];rw[hlen.out] at hlt2;clear hs hf hi S5;go_wp2_with fail;refine bodyPost_ret (v:=.tuple #[s.val,.bool true]) (by simp[results,Tryz.results31,go_sem,Sp.val,Jy, *]<;>rfl) rfl ?_
  rw[hdone.out];exact⟨rfl,S6.out⟩
 ·have S6:=hid (((S5.permR (l2:=(b,.cells #[.string ByteArray.empty,.int .i64 0,.int .i64 0,.int .i64 0,.int .i64 0,.int .i64 0,.int .i64 0] 53 (0,0))::((w2.heap.size,.cells #[.string (J0x word)] 9 (0,0))::(g,.cells (J1k J1l).toArray 53 (0,0))::r)) (J2 fun f=>by
   simp only[List.map_cons,List.sum_cons];omega)).setSp J0d).less ((List.sublist_cons_self _ _).trans ((List.sublist_cons_self _ _).trans (List.sublist_cons_self _ _))))
  have hdone:Hid (J7z word=none):=hid hf;rw[hi];clear hf hi S5;unfold J0d at S6;go_wp2_with fail;refine bodyPost_ret (v:=.tuple #[J0d.val,.bool false]) (by simp[results,Tryz.results31,go_sem,Sp.val,Jy,J0d, *]<;>rfl) rfl ?_
  rw[hdone.out];exact⟨rfl,S6.out⟩
end Go.Proofs.YtefjbegnlolgbaaGreatDoor
