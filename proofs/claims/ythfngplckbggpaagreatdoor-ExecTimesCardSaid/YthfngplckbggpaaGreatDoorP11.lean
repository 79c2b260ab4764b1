/-
  item.Drop.
  item.Right: a text; fields that rise.
  Whole numbers as text: the plain law. No program in sight.
  whole: Text, Parse, Add, Neg.
-/
import Derived.Test.YthfngplckbggpaaGreatDoorP10
import Derived.Test.YthfngplckbggpaaGreatDoorP05
import Derived.Lib.ParseIntB
import Derived.Lib.ParseIntBTie
import Derived.Lib.ItoaNum
import Derived.Lib.ItoaLen
import Derived.Test.YthfngplckbggpaaGreatDoorShelf
import Derived.Lib.ConvBytes
set_option linter.unusedVariables false
set_option linter.unusedSimpArgs false
namespace Go.Proofs.YthfngplckbggpaaGreatDoor
open Go Go.RowKit

/-- What Drop hands back. -/
def DropItPost (w0 : World) (l r sl : Hp) (fs : Fs) (name : ByteArray) (kind : Int) (text : ByteArray) (is : Bool) (gs : Fs) (e : Ending) (w' : World) : Prop :=
  ∃ v' sl', e = .returned (.tuple #[itemVal kind text v', .bool is, .int .i64 0]) ∧ IsFields v' gs sl' ∧ Step w0 l w' (sl' ++ (sl ++ r))

theorem perm2 {p q : Nat × Obj} {sl r : Hp} : (p :: q :: (sl ++ r)).Perm (sl ++ (p :: q :: r)) := List.perm_append_comm_assoc [_, _] sl r

set_option maxRecDepth 100000 in
set_option maxHeartbeats 2000000 in
theorem itdrop_no {w0 w : World} {l r sl : Hp} {v : Value} {fs : Fs} {kind : Int} {text : ByteArray} (hk : (kind == 1) = false) (hS : Step w0 l w (sl ++ r)) (hat : IsFields v fs sl) (hr : Rise fs) (hB : fs.length ≤ 1048576)
    (name : ByteArray) (hh : has fs name = false) :
    Calls Tryz.prog 168 #[itemVal kind text v, .string name] w (DropItPost w0 l r sl fs name kind text false fs) := by
  obtain ⟨a, c, rfl⟩ := hat.shape
  have S1 := ((hS.alloc (.cells #[.int .i64 kind, .string text, .slice a fs.length c] 62)).alloc (.cells #[.int .i64 0, .string ByteArray.empty, .slice none 0 0] 62))
  simp only [World.size_alloc] at S1
  replace S1 := S1.permR perm2
  have hcall := hid (itat_any (kind := kind) (text := text) S1 hat hr (by omega) name)
  have hat' := hid hat
  clear hS S1 hat
  go_enter Tryz.func168, Tryz.ntmps168
  unfold itemVal
  go_wp2_with fail
  refine hcall.out.mono ?_
  rintro e w2 ⟨rfl, S2⟩
  clear hcall
  obtain ⟨x0, x1, x2⟩ := cells3 S2.own.right.tail.head
  have hcp := hid (copy_any (kind := kind) (text := text) S2 hat'.out hB)
  unfold itemVal at hcp
  rw [hh]
  replace hh := hid hh
  clear S2
  go_wp2_with fail
  refine hcp.out.mono ?_
  rintro e w3 ⟨v', sl', rfl, hat2, S3⟩
  obtain ⟨a', c', rfl⟩ := hat2.shape
  replace hat2 := hid hat2
  clear x0 x1 x2 hcp
  have hown := S3.own.right.right
  obtain ⟨d0, d1, d2, f1⟩ := cells3 hown.head
  have hlt := block_lt hown.head
  have hne : ¬ w.heap.size + 1 = w3.heap.size := by omega
  have S4 := S3.pick (l2 := (w.heap.size + 1, .cells #[.int .i64 0, .string ByteArray.empty, .slice none 0 0] 62 (0, 0)) :: (sl' ++ (sl ++ r))) (m := [(w.heap.size, .cells #[.int .i64 kind, .string text, .slice a fs.length c] 62 (0, 0))]) (perm_by fun f => by
    simp only [List.map_append, List.sum_append, List.map_cons, List.sum_cons, List.append_eq, List.cons_append, List.nil_append, List.map_nil, List.sum_nil]
    omega)
  have S5 := ((((S4.set 0 (.int .i64 kind)).set 1 (.string text)).set 2 (.slice a' fs.length c')).alloc (.cells #[.int .i64 kind, .string text, .slice a' fs.length c'] 62)).less ((List.sublist_cons_self _ _).trans (List.sublist_cons_self _ _))
  have hfin : Hid (DropItPost w0 l r sl fs name kind text false fs (.returned (.tuple #[itemVal kind text (.slice a' fs.length c'), .bool false, .int .i64 0])) _) := ⟨_, sl', rfl, hat2.out, S5⟩
  clear S3 S4 S5 hown
  go_wp2_with fail
  refine bodyPost_ret (v := .tuple #[itemVal kind text (.slice a' fs.length c'), .bool false, .int .i64 0]) (by simp [results, Tryz.results168, go_sem, itemVal, *]) rfl ?_
  exact hfin.out

set_option maxRecDepth 100000 in
set_option maxHeartbeats 2000000 in
theorem itdrop_one {w0 w : World} {l r sl : Hp} {v : Value} {fs : Fs} {kind : Int} {text : ByteArray} (hk : (kind == 1) = false) (hS : Step w0 l w (sl ++ r)) (hat : IsFields v fs sl) (hr : Rise fs) (hB : fs.length ≤ 1048576)
    (name : ByteArray) (hh : has fs name = true) (hl : fs.length = 1) :
    Calls Tryz.prog 168 #[itemVal kind text v, .string name] w (DropItPost w0 l r sl fs name 0 ByteArray.empty true []) := by
  replace hl := hid hl
  obtain ⟨a, c, rfl⟩ := hat.shape
  have S1 := ((hS.alloc (.cells #[.int .i64 kind, .string text, .slice a fs.length c] 62)).alloc (.cells #[.int .i64 0, .string ByteArray.empty, .slice none 0 0] 62))
  simp only [World.size_alloc] at S1
  replace S1 := S1.permR perm2
  have hcall := hid (itat_any (kind := kind) (text := text) S1 hat hr (by omega) name)
  have hat' := hid hat
  have hr' := hid hr
  clear hS S1 hat hr
  go_enter Tryz.func168, Tryz.ntmps168
  unfold itemVal
  go_wp2_with fail
  refine hcall.out.mono ?_
  rintro e w2 ⟨rfl, S2⟩
  clear hcall
  obtain ⟨x0, x1, x2⟩ := cells3 S2.own.right.tail.head
  have hcp := hid (copy_any (kind := kind) (text := text) S2 hat'.out hB)
  unfold itemVal at hcp
  rw [hh]
  replace hh := hid hh
  clear S2
  go_wp2_with fail
  refine hcp.out.mono ?_
  rintro e w3 ⟨v', sl', rfl, hat2, S3⟩
  obtain ⟨a', c', rfl⟩ := hat2.shape
  rw [hl.out]
  clear x0 x1 x2 hcp hat2
  have hown := S3.own.right.right
  obtain ⟨d0, d1, d2, f1⟩ := cells3 hown.head
  have hlt := block_lt hown.head
  have hne : ¬ w.heap.size + 1 = w3.heap.size := by omega
  have S4 := S3.pick (l2 := (w.heap.size + 1, .cells #[.int .i64 0, .string ByteArray.empty, .slice none 0 0] 62 (0, 0)) :: (sl ++ r)) (m := (w.heap.size, .cells #[.int .i64 kind, .string text, .slice a fs.length c] 62 (0, 0)) :: sl') (perm_by fun f => by
    simp only [List.map_append, List.sum_append, List.map_cons, List.sum_cons, List.append_eq, List.cons_append, List.nil_append, List.map_nil, List.sum_nil]
    omega)
  have S5 := ((((S4.set 0 (.int .i64 0)).set 1 (.string ByteArray.empty)).set 2 (.slice none 0 0)).alloc (.cells #[.int .i64 kind, .string text, .slice a' 1 c'] 62)).less ((List.sublist_cons_self _ _).trans (List.sublist_cons_self _ _))
  have hfin : Hid (DropItPost w0 l r sl fs name 0 ByteArray.empty true [] (.returned (.tuple #[itemVal 0 ByteArray.empty (.slice none 0 0), .bool true, .int .i64 0])) _) := ⟨_, [], rfl, ⟨.nil, fun _ => rfl⟩, S5⟩
  clear S3 S4 S5 hown
  go_wp2_with fail
  refine bodyPost_ret (v := .tuple #[itemVal 0 ByteArray.empty (.slice none 0 0), .bool true, .int .i64 0]) (by simp [results, Tryz.results168, go_sem, itemVal, *]; rfl) rfl ?_
  exact hfin.out

set_option maxRecDepth 100000 in
set_option maxHeartbeats 2000000 in
theorem itdrop_more {w0 w : World} {l r sl : Hp} {v : Value} {fs : Fs} {kind : Int} {text : ByteArray} (hk : (kind == 1) = false) (hS : Step w0 l w (sl ++ r)) (hat : IsFields v fs sl) (hr : Rise fs) (hB : fs.length ≤ 1048576)
    (name : ByteArray) (hh : has fs name = true) (hl : 1 < fs.length) :
    Calls Tryz.prog 168 #[itemVal kind text v, .string name] w (DropItPost w0 l r sl fs name kind text true (fdel fs name)) := by
  obtain ⟨a, c, rfl⟩ := hat.shape
  have S1 := ((hS.alloc (.cells #[.int .i64 kind, .string text, .slice a fs.length c] 62)).alloc (.cells #[.int .i64 0, .string ByteArray.empty, .slice none 0 0] 62))
  simp only [World.size_alloc] at S1
  replace S1 := S1.permR perm2
  have hcall := hid (itat_any (kind := kind) (text := text) S1 hat hr (by omega) name)
  have hat' := hid hat
  have hr' := hid hr
  clear hS S1 hat hr
  go_enter Tryz.func168, Tryz.ntmps168
  unfold itemVal
  go_wp2_with fail
  refine hcall.out.mono ?_
  rintro e w2 ⟨rfl, S2⟩
  clear hcall
  obtain ⟨x0, x1, x2⟩ := cells3 S2.own.right.tail.head
  have hcp := hid (copy_any (kind := kind) (text := text) S2 hat'.out hB)
  unfold itemVal at hcp
  rw [hh]
  replace hh := hid hh
  clear S2
  go_wp2_with fail
  refine hcp.out.mono ?_
  rintro e w3 ⟨v', sl', rfl, hat2, S3⟩
  obtain ⟨A, B, t, he, hpos, hdel, _, _⟩ := has_parts hr'.out hh.out
  have hlen : fs.length = A.length + 1 + B.length := by rw [he]; simp; omega
  obtain ⟨g, cap, rest, rfl, hc, hc2, rfl, hrest⟩ := hat2.sl.view (by omega)
  rw [hpos, hlen]
  rw [hlen] at hc
  have hown := S3.own.right.right
  have hlt := block_lt hown.head
  have hcall := hid (delete_any (A := A) (B := B) (f := (name, t)) (rest := rest) (cap := cap) (by
    have := S3.alloc (.cells #[.int .i64 kind, .string text, .slice (some ⟨g, 0, none⟩) (A.length + 1 + B.length) cap] 62)
    rw [he] at this
    exact this.permR (List.Perm.swap _ _ _)) hc hc2)
  clear x0 x1 x2 hcp hat2
  clear S3 hown
  go_wp2_with fail
  refine hcall.out.mono ?_
  rintro e w4 ⟨rfl, S4⟩
  have hown := S4.own.tail
  obtain ⟨c0, c1, c2, f0⟩ := cells3 hown.head
  obtain ⟨d0, d1, d2, f1⟩ := cells3 hown.tail.right.right.head
  have hne : ¬ w.heap.size + 1 = w3.heap.size := by omega
  have hne2 : ¬ w3.heap.size = w.heap.size + 1 := by omega
  have S5 := S4.pick (l2 := (w3.heap.size, .cells #[.int .i64 kind, .string text, .slice (some ⟨g, 0, none⟩) (A.length + 1 + B.length) cap] 62 (0, 0)) :: (w.heap.size + 1, .cells #[.int .i64 0, .string ByteArray.empty, .slice none 0 0] 62 (0, 0)) ::
      ([(g, .cells (fsCells (A ++ B) ++ .string ByteArray.empty :: .string ByteArray.empty :: rest).toArray 96 (0, 0))] ++ (sl ++ r))) (m := [(w.heap.size, .cells #[.int .i64 kind, .string text, .slice a (A ++ (name, t) :: B).length c] 62 (0, 0))]) (perm_by fun f => by
    simp only [List.map_append, List.sum_append, List.map_cons, List.sum_cons, List.append_eq, List.cons_append, List.nil_append, List.map_nil, List.sum_nil]
    omega)
  have S6 := (((((S5.set 2 (.slice (some ⟨g, 0, none⟩) (A.length + B.length) cap)).permR (List.Perm.swap _ _ _)).set 0 (.int .i64 kind)).set 1 (.string text)).set 2 (.slice (some ⟨g, 0, none⟩) (A.length + B.length) cap)).less ((List.sublist_cons_self _ _).trans (List.sublist_cons_self _ _))
  have hres : IsFields (.slice (some ⟨g, 0, none⟩) (A.length + B.length) cap) (fdel fs name) [(g, .cells (fsCells (A ++ B) ++ .string ByteArray.empty :: .string ByteArray.empty :: rest).toArray 96 (0, 0))] := by
    rw [hdel]
    have hl2 : (A ++ B).length = A.length + B.length := List.length_append
    refine ⟨?_, fun h => by have := congrArg List.length h; rw [hl2, List.length_nil] at this; omega⟩
    rw [hl2]
    refine .laid g _ cap _ _ (by rw [fsCells_len, hl2]) ?_ (by omega) hc2
    simp only [List.length_cons, hrest]; omega
  have hfin : Hid (DropItPost w0 l r sl fs name kind text true (fdel fs name) (.returned (.tuple #[itemVal kind text (.slice (some ⟨g, 0, none⟩) (A.length + B.length) cap), .bool true, .int .i64 0])) _) := ⟨_, _, rfl, hres, S6⟩
  clear S4 S5 S6 hres hown hcall hdel he hpos hrest hc hc2 hlen hl hB
  go_wp2_with fail
  refine bodyPost_ret (v := .tuple #[itemVal kind text (.slice (some ⟨g, 0, none⟩) (A.length + B.length) cap), .bool true, .int .i64 0]) (by simp [results, Tryz.results168, go_sem, itemVal, *]) rfl ?_
  exact hfin.out

end Go.Proofs.YthfngplckbggpaaGreatDoor

namespace Go.Proofs.YthfngplckbggpaaGreatDoor
open Go Go.RowKit

set_option maxRecDepth 100000 in
theorem right_text {w0 w : World} {l r : Hp} {text : ByteArray} (hS : Step w0 l w r) (h1 : text.size ≤ 4096) :
    Calls Tryz.prog 147 #[itemVal 1 text (.slice none 0 0)] w fun e w' => e = .returned (.bool true) ∧ Step w0 l w' r := by
  have hfin := hid ((hS.alloc (.cells #[.int .i64 1, .string text, .slice none 0 0] 62)).less (List.sublist_cons_self _ _))
  have h2 : (text.size : Int) ≤ 4096 := by omega
  go_enter Tryz.func147, Tryz.ntmps147
  unfold itemVal
  go_wp2_with fail
  go_ret
  exact ⟨rfl, hfin.out⟩
set_option maxRecDepth 100000 in
theorem right_long {w0 w : World} {l r : Hp} {text : ByteArray} (hS : Step w0 l w r) (h1 : 4096 < text.size) :
    Calls Tryz.prog 147 #[itemVal 1 text (.slice none 0 0)] w fun e w' => e = .returned (.bool false) ∧ Step w0 l w' r := by
  have hfin := hid ((hS.alloc (.cells #[.int .i64 1, .string text, .slice none 0 0] 62)).less (List.sublist_cons_self _ _))
  have h2 : ¬ (text.size : Int) ≤ 4096 := by omega
  go_enter Tryz.func147, Tryz.ntmps147
  unfold itemVal
  go_wp2_with fail
  go_ret
  exact ⟨rfl, hfin.out⟩

/-- What the round of Right reads. -/
theorem right_cells {w0 w : World} {l r : Hp} {g bb fb m : Nat} {fs : Fs} {rest : List Value} {f : ByteArray × ByteArray} {kind : Int} {text : ByteArray} {v : Value}
    (hS : Step w0 l w ((fb, .cells #[.string f.1, .string f.2] 96 (0, 0)) :: (bb, .cells #[.int .i64 kind, .string text, v] 62 (0, 0)) :: (g, .cells (fsCells fs ++ rest).toArray 96 (0, 0)) :: r)) {p : ByteArray × ByteArray} (hp : fs[m]? = some p) :
    w.cell? ⟨g, m * 2, none⟩ = some (.string p.1) ∧ w.cell? ⟨g, m * 2 + 1, none⟩ = some (.string p.2) ∧ w.cell? ⟨fb, 0, none⟩ = some (.string f.1) ∧ w.cell? ⟨fb, 1, none⟩ = some (.string f.2) ∧ w.cell? ⟨bb, 2, none⟩ = some v ∧
      Hid (Step w0 l w ((fb, .cells #[.string f.1, .string f.2] 96 (0, 0)) :: (bb, .cells #[.int .i64 kind, .string text, v] 62 (0, 0)) :: (g, .cells (fsCells fs ++ rest).toArray 96 (0, 0)) :: r)) := by
  have hb := hS.own.tail.tail.head
  have hcm := fsCells_name fs m p hp
  have hlen := fsCells_len fs
  have hm := (List.getElem?_eq_some_iff.1 hp).1
  refine ⟨?_, ?_, cells_get hS.own.head 0, cells_get hS.own.head 1, cells_get hS.own.tail.head 2, hid hS⟩
  · rw [cells_get hb, List.getElem?_toArray, List.getElem?_append_left (by omega), Nat.mul_comm, hcm.1]
  · rw [cells_get hb, List.getElem?_toArray, List.getElem?_append_left (by omega), Nat.mul_comm, hcm.2]

set_option maxRecDepth 100000 in
set_option maxHeartbeats 4000000 in
theorem right_hash {w0 w : World} {l r : Hp} {g cap : Nat} {fs : Fs} {rest : List Value} (hS : Step w0 l w ((g, .cells (fsCells fs ++ rest).toArray 96 (0, 0)) :: r)) (hr : Rise fs) (h1 : 1 ≤ fs.length) (h2 : fs.length ≤ 256)
    (hf : ∀ f ∈ fs, f.1.size ≤ 512 ∧ f.2.size ≤ 4096) :
    Calls Tryz.prog 147 #[itemVal 2 ByteArray.empty (.slice (some ⟨g, 0, none⟩) fs.length cap)] w fun e w' => e = .returned (.bool true) ∧ Step w0 l w' ((g, .cells (fsCells fs ++ rest).toArray 96 (0, 0)) :: r) := by
  have S1 := hid (hS.alloc (.cells #[.int .i64 2, .string ByteArray.empty, .slice (some ⟨g, 0, none⟩) fs.length cap] 62))
  replace hf := hid hf
  clear hS
  go_enter Tryz.func147, Tryz.ntmps147
  unfold itemVal
  go_wp2_with fail
  generalize hw1 : w.alloc (.cells #[.int .i64 2, .string ByteArray.empty, .slice (some ⟨g, 0, none⟩) fs.length cap] 62) = w1 at S1 ⊢
  generalize w.heap.size = bb at S1 ⊢
  clear hw1
  go_loopw [24] (fun c wr => ∃ k : Nat, k ≤ fs.length ∧ c = .int .i64 k ∧ Hid (Step w0 l wr ((bb, .cells #[.int .i64 2, .string ByteArray.empty, .slice (some ⟨g, 0, none⟩) fs.length cap] 62 (0, 0)) :: (g, .cells (fsCells fs ++ rest).toArray 96 (0, 0)) :: r))) (fun c wr => fs.length - (intOf c).toNat)
  case atStart => exact ⟨0, Nat.zero_le _, rfl, S1⟩
  case round =>
    obtain ⟨k, hk, rfl, hS2⟩ := hrel
    by_cases hlt : k < fs.length
    · obtain ⟨f, hfk⟩ : ∃ f : ByteArray × ByteArray, fs[k]? = some f := ⟨fs[k], List.getElem?_eq_getElem _⟩
      have hfr := hf.out f (List.mem_of_getElem? hfk)
      have S3 := hS2.out.alloc (.cells #[.string f.1, .string f.2] 96)
      have hgl := block_lt hS2.out.own.tail.head
      have hb := hS2.out.own.tail.head
      have hcm := fsCells_name fs k f hfk
      have hlen := fsCells_len fs
      have b0 : wr.cell? ⟨g, k * 2, none⟩ = some (.string f.1) := by
        rw [cells_get hb, List.getElem?_toArray, List.getElem?_append_left (by omega), Nat.mul_comm, hcm.1]
      have b1 : wr.cell? ⟨g, k * 2 + 1, none⟩ = some (.string f.2) := by
        rw [cells_get hb, List.getElem?_toArray, List.getElem?_append_left (by omega), Nat.mul_comm, hcm.2]
      clear hb hcm hlen
      replace S3 := hid S3
      replace hfk := hid hfk
      replace hfr := hid hfr
      go_wp2_with fail
      generalize hw2 : wr.alloc (.cells #[.string f.1, .string f.2] 96) = w2 at S3 ⊢
      generalize wr.heap.size = fb at S3 ⊢
      clear hw2 b0 b1 hgl
      have hdone : Hid (∀ w3, Step w0 l w3 ((fb, .cells #[.string f.1, .string f.2] 96 (0, 0)) :: (bb, .cells #[.int .i64 2, .string ByteArray.empty, .slice (some ⟨g, 0, none⟩) fs.length cap] 62 (0, 0)) :: (g, .cells (fsCells fs ++ rest).toArray 96 (0, 0)) :: r) →
        Hid (Step w0 l w3 ((bb, .cells #[.int .i64 2, .string ByteArray.empty, .slice (some ⟨g, 0, none⟩) fs.length cap] 62 (0, 0)) :: (g, .cells (fsCells fs ++ rest).toArray 96 (0, 0)) :: r))) := fun w3 h => hid (h.less (List.sublist_cons_self _ _))
      by_cases hk0 : k = 0
      · have hgt : decide ((0 : Int) < (k : Int)) = false := by simp [hk0]
        have hgt2 : decide (0 < k) = false := by simp [hk0]
        replace hk0 := hid hk0
        have x0 : ∀ p : InW w0 l ((fb, .cells #[.string f.1, .string f.2] 96 (0, 0)) :: (bb, .cells #[.int .i64 2, .string ByteArray.empty, .slice (some ⟨g, 0, none⟩) fs.length cap] 62 (0, 0)) :: (g, .cells (fsCells fs ++ rest).toArray 96 (0, 0)) :: r), p.w.cell? ⟨fb, 0, none⟩ = some (.string f.1) := fun p => cells_get p.h.own.head 0
        have x1 : ∀ p : InW w0 l ((fb, .cells #[.string f.1, .string f.2] 96 (0, 0)) :: (bb, .cells #[.int .i64 2, .string ByteArray.empty, .slice (some ⟨g, 0, none⟩) fs.length cap] 62 (0, 0)) :: (g, .cells (fsCells fs ++ rest).toArray 96 (0, 0)) :: r), p.w.cell? ⟨fb, 1, none⟩ = some (.string f.2) := fun p => cells_get p.h.own.head 1
        refine wp_region_inw S3.out (by kernel_rfl) (by kernel_rfl) (fun hne => ?_)
        repeat (go_big_quiet_step ((go_at_call 187; refine Calls.inw (field_yes (f := f) (InW.h _) hfr.out.1 hfr.out.2))))
        refine inw_nil fun wq hq => ?_
        have hq' := hdone.out wq hq
        clear x0 x1 hq hne
        go_wp2_with fail
        go_roundw
        case rel => exact ⟨k + 1, by omega, by go_num, hq'⟩
        case measure => simp [intOf]; omega
      · have hgt : decide ((0 : Int) < (k : Int)) = true := by simp; omega
        have hgt2 : decide (0 < k) = true := by simp; omega
        have hgt3 : 1 ≤ k := by omega
        obtain ⟨q, hqk⟩ : ∃ q : ByteArray × ByteArray, fs[k - 1]? = some q := ⟨fs[k - 1], List.getElem?_eq_getElem _⟩
        have hless := rise_lt hr (show k - 1 < k by omega) hqk hfk.out
        have hle : ¬ (0 : Int) ≤ ncmp q.1 f.1 := by omega
        have x0 : ∀ p : InW w0 l ((fb, .cells #[.string f.1, .string f.2] 96 (0, 0)) :: (bb, .cells #[.int .i64 2, .string ByteArray.empty, .slice (some ⟨g, 0, none⟩) fs.length cap] 62 (0, 0)) :: (g, .cells (fsCells fs ++ rest).toArray 96 (0, 0)) :: r), p.w.cell? ⟨fb, 0, none⟩ = some (.string f.1) := fun p => cells_get p.h.own.head 0
        have x1 : ∀ p : InW w0 l ((fb, .cells #[.string f.1, .string f.2] 96 (0, 0)) :: (bb, .cells #[.int .i64 2, .string ByteArray.empty, .slice (some ⟨g, 0, none⟩) fs.length cap] 62 (0, 0)) :: (g, .cells (fsCells fs ++ rest).toArray 96 (0, 0)) :: r), p.w.cell? ⟨fb, 1, none⟩ = some (.string f.2) := fun p => cells_get p.h.own.head 1
        have x2 : ∀ p : InW w0 l ((fb, .cells #[.string f.1, .string f.2] 96 (0, 0)) :: (bb, .cells #[.int .i64 2, .string ByteArray.empty, .slice (some ⟨g, 0, none⟩) fs.length cap] 62 (0, 0)) :: (g, .cells (fsCells fs ++ rest).toArray 96 (0, 0)) :: r), p.w.cell? ⟨bb, 2, none⟩ = some (.slice (some ⟨g, 0, none⟩) fs.length cap) := fun p => cells_get p.h.own.tail.head 2
        have y0 : ∀ p : InW w0 l ((fb, .cells #[.string f.1, .string f.2] 96 (0, 0)) :: (bb, .cells #[.int .i64 2, .string ByteArray.empty, .slice (some ⟨g, 0, none⟩) fs.length cap] 62 (0, 0)) :: (g, .cells (fsCells fs ++ rest).toArray 96 (0, 0)) :: r), p.w.cell? ⟨g, (k - 1) * 2, none⟩ = some (.string q.1) := fun p => (right_cells p.h hqk).1
        have y1 : ∀ p : InW w0 l ((fb, .cells #[.string f.1, .string f.2] 96 (0, 0)) :: (bb, .cells #[.int .i64 2, .string ByteArray.empty, .slice (some ⟨g, 0, none⟩) fs.length cap] 62 (0, 0)) :: (g, .cells (fsCells fs ++ rest).toArray 96 (0, 0)) :: r), p.w.cell? ⟨g, (k - 1) * 2 + 1, none⟩ = some (.string q.2) := fun p => (right_cells p.h hqk).2.1
        replace hqk := hid hqk
        refine wp_region_inw S3.out (by kernel_rfl) (by kernel_rfl) (fun hne => ?_)
        repeat (go_big_quiet_step ((first
          | (go_at_call 187; refine Calls.inw (field_yes (f := f) (InW.h _) hfr.out.1 hfr.out.2))
          | (go_at_call 188; refine Calls.inw (byname_any (InW.h _) q f)))))
        refine inw_nil fun wq hq => ?_
        have hq' := hdone.out wq hq
        clear x0 x1 x2 y0 y1 hq hne
        go_wp2_with fail
        go_roundw
        case rel => exact ⟨k + 1, by omega, by go_num, hq'⟩
        case measure => simp [intOf]; omega
    · obtain rfl : k = fs.length := by omega
      obtain ⟨_, c1, c2, _⟩ := cells3 hS2.out.own.head
      have hs1 : (1 : Int) ≤ (fs.length : Int) := by omega
      have hs2 : (fs.length : Int) ≤ 256 := by omega
      have S3 := hid (hS2.out.less (List.sublist_cons_self _ _))
      go_wp2_with fail
      go_ret
      exact ⟨rfl, S3.out⟩

end Go.Proofs.YthfngplckbggpaaGreatDoor

namespace Go.Proofs.YthfngplckbggpaaGreatDoor
open Go

/-- A number's digits. -/
def wtext (n : Int) : ByteArray := ⟨(Lib.itoa n).toArray⟩
/-- The number of digits. -/
def wnum (s : ByteArray) : Option Int := match Lib.parseIntB 64 s.data.toList with
  | .ok v => if wtext v = s then some v else none
  | _ => none

theorem parse_snoc (M : Nat) (c : UInt8) (d : Nat) (hc : c.toNat = 48 + d) (hd : d < 10) : ∀ (l : List UInt8) (acc a : Nat), Lib.parseUintM M acc l = .ok a → a < 1844674407370955162 → a * 10 + d ≤ M → Lib.parseUintM M acc (l ++ [c]) = .ok (a * 10 + d)
  | [], acc, a, h, h1, h2 => by
    simp only [Lib.parseUintM, Lib.NumEnd.ok.injEq] at h
    subst h
    simp only [List.nil_append, Lib.parseUintM]
    rw [if_pos (by omega), if_neg (by omega), if_neg (by omega)]
    congr 1; omega
  | x :: l, acc, a, h, h1, h2 => by
    rw [List.cons_append]
    unfold Lib.parseUintM at h ⊢
    split
    · rename_i hx
      rw [if_pos hx] at h
      split
      · rename_i h3; rw [if_pos h3] at h; cases h
      · rename_i h3
        rw [if_neg h3] at h
        split
        · rename_i h4; rw [if_pos h4] at h; cases h
        · rename_i h4
          rw [if_neg h4] at h
          exact parse_snoc M c d hc hd l _ a h h1 h2
    · rename_i hx
      rw [if_neg hx] at h; cases h

theorem digit_nat {d : Nat} (h : d < 10) : (UInt8.ofNat (48 + d)).toNat = 48 + d := by
  rw [UInt8.toNat_ofNat']; omega

theorem parse_digits (M : Nat) (hM : M ≤ 18446744073709551615) (u : Nat) : u ≤ M → Lib.parseUintM M 0 (Lib.decDigits u) = .ok u := by
  induction u using Nat.strongRecOn with
  | ind u ih =>
    intro hu
    unfold Lib.decDigits
    split
    · rename_i h
      have := parse_snoc M (UInt8.ofNat (48 + u)) u (digit_nat h) h [] 0 0 rfl (by omega) (by omega)
      simpa using this
    · rename_i h
      have := parse_snoc M (UInt8.ofNat (48 + u % 10)) (u % 10) (digit_nat (by omega)) (by omega) _ 0 (u / 10) (ih (u / 10) (by omega) (by omega)) (by omega) (by omega)
      rw [this]; congr 1; omega

theorem digits_ne (u : Nat) : Lib.decDigits u ≠ [] := by
  unfold Lib.decDigits; split <;> simp
theorem digits_head (u : Nat) : ∃ d r, d < 10 ∧ Lib.decDigits u = UInt8.ofNat (48 + d) :: r := by
  induction u using Nat.strongRecOn with
  | ind u ih =>
    unfold Lib.decDigits
    split
    · rename_i h; exact ⟨u, [], h, rfl⟩
    · rename_i h
      obtain ⟨d, r, hd, he⟩ := ih (u / 10) (by omega)
      exact ⟨d, _, hd, by rw [he]; rfl⟩

theorem parse_itoa {n : Int} (h0 : -9223372036854775808 ≤ n) (h1 : n ≤ 9223372036854775807) : Lib.parseIntB 64 (Lib.itoa n) = .ok n := by
  have e64 : (2 : Nat) ^ 64 - 1 = 18446744073709551615 := by decide
  have e63 : (2 : Nat) ^ (64 - 1) = 9223372036854775808 := by decide
  unfold Lib.itoa
  split
  · rename_i hn
    have hp := parse_digits (2 ^ 64 - 1) (by omega) n.natAbs (by omega)
    unfold Lib.parseIntB Lib.parseUintB
    simp only [show (45 : UInt8).toNat = 45 from rfl, or_true, if_true, digits_ne, if_false, hp]
    rw [if_neg (by simp), if_neg (by rw [e63]; omega)]
    simp; omega
  · rename_i hn
    obtain ⟨d, r, hd, he⟩ := digits_head n.toNat
    have hp := parse_digits (2 ^ 64 - 1) (by omega) n.toNat (by omega)
    have hne := digits_ne n.toNat
    have hd2 := digit_nat hd
    rw [he] at hp hne ⊢
    have h43 : ¬ (UInt8.ofNat (48 + d)).toNat = 43 := by omega
    have h45 : ¬ (UInt8.ofNat (48 + d)).toNat = 45 := by omega
    unfold Lib.parseIntB Lib.parseUintB
    simp only [h43, h45, or_self, if_false, hne, hp]
    rw [if_neg (by rw [e63]; simp; omega)]
    simp; omega

theorem wnum_wtext {n : Int} (h0 : -9223372036854775808 ≤ n) (h1 : n ≤ 9223372036854775807) : wnum (wtext n) = some n := by
  unfold wnum
  rw [show (wtext n).data.toList = Lib.itoa n by simp [wtext], parse_itoa h0 h1]
  simp
theorem wnum_some {s : ByteArray} {n : Int} (h : wnum s = some n) : wtext n = s ∧ Lib.parseIntB 64 s.data.toList = .ok n := by
  unfold wnum at h
  split at h
  · rename_i v hv
    split at h
    · rename_i he
      injection h with h; subst h
      exact ⟨he, hv⟩
    · cases h
  · cases h

end Go.Proofs.YthfngplckbggpaaGreatDoor

namespace Go.Proofs.YthfngplckbggpaaGreatDoor
open Go Go.RowKit Go.Sort

/-- What the package-level variables hold that are read. -/
structure Glob (w : World) : Prop where
  syn : ∃ tp p, w.var? Tryz.prog "strconv.ErrSyntax" = some #[.iface tp p]
  rng : ∃ tp p, w.var? Tryz.prog "strconv.ErrRange" = some #[.iface tp p]
  tab : Lib.TabIs Tryz.prog w "internal/strconv.uint64pow10" .u64 Lib.pow10Tab

theorem var_keep {w0 w : World} {r : Hp} (hS : Step w0 [] w r) {n : String} {cs : Array Value} (h : w0.var? Tryz.prog n = some cs) : w.var? Tryz.prog n = some cs := by
  unfold World.var? at h ⊢
  cases hg : Tryz.prog.globalNamed n with
  | none => rw [hg] at h; cases h
  | some g =>
    rw [hg] at h
    simp only [Option.bind_some] at h ⊢
    cases hh : w0.heap[g]? with
    | none => rw [hh] at h; cases h
    | some o => rw [hS.same g (block_lt hh) (by simp)]; exact h
theorem Glob.keep {w0 w : World} {r : Hp} (h : Glob w0) (hS : Step w0 [] w r) : Glob w :=
  ⟨let ⟨tp, p, hv⟩ := h.syn; ⟨tp, p, var_keep hS hv⟩, let ⟨tp, p, hv⟩ := h.rng; ⟨tp, p, var_keep hS hv⟩, var_keep hS h.tab⟩

theorem Step.below {w0 w w' : World} {l r : Hp} (hS : Step w0 l w r) (hb : Below w.heap.size w w') : Step w0 l w' r := by
  have k : Step w r w' r := ⟨hb.os, hb.output, hb.size, ⟨fun p hp => by rw [hb.block p.1 (hS.own.lt (List.mem_map_of_mem hp))]; exact hS.own.at_ p hp, hS.own.nd⟩, fun b hb' _ => hb.block b hb', fun b hb' => .inl hb'⟩
  exact hS.trans k
theorem Step.growN {w0 w : World} {l r : Hp} (hS : Step w0 l w r) (k : Nat) (os : Array Obj) : Step w0 l (grow (w.drewN k) os) r := by
  refine hS.below ⟨rfl, rfl, rfl, ?_, fun i hi => ?_⟩
  · show w.heap.size ≤ (w.heap ++ os).size
    simp
  · show (w.heap ++ os)[i]? = _
    rw [Array.getElem?_append_left hi]

theorem wtext_any {w0 w : World} {r : Hp} (hS : Step w0 [] w r) (hG : Glob w0) (n : Int) (h0 : -9223372036854775808 ≤ n) (h1 : n ≤ 9223372036854775807) :
    Calls Tryz.prog 156 #[.int .i64 n] w fun e w' => e = .returned (.string (wtext n)) ∧ Step w0 [] w' r := by
  have hc := hid (Tryz.strconv_FormatInt_10 n h0 h1 w (hG.keep hS).tab)
  go_enter Tryz.func156, Tryz.ntmps156
  go_wp2_with fail
  refine hc.out.mono ?_
  rintro e w1 ⟨rfl, k, os, rfl⟩
  go_wp2_with fail
  go_ret
  exact ⟨rfl, hS.growN k os⟩

def wcode (o : Option Int) : Int := if o.isSome then 0 else 11

set_option maxRecDepth 100000 in
theorem wparse_any {w0 w : World} {r : Hp} (hS : Step w0 [] w r) (hG : Glob w0) (s : ByteArray) (hs : s.size ≤ 1099511627776) :
    Calls Tryz.prog 98 #[.string s] w fun e w' => e = .returned (.tuple #[.int .i64 ((wnum s).getD 0), .int .i64 (wcode (wnum s))]) ∧ Step w0 [] w' r := by
  cases hp : Lib.parseIntB 64 s.data.toList with
  | ok v =>
    have hb := Lib.parseIntB_bounds hp
    have hc := hid (Tryz.strconv_ParseInt_10_at64_ok s (by omega) v hp w)
    have hv : -9223372036854775808 ≤ v ∧ v ≤ 9223372036854775807 := by
      have e : ((2 ^ (64 - 1) : Nat) : Int) = 9223372036854775808 := by decide
      rw [e] at hb; omega
    clear hb
    by_cases he : wtext v = s
    · have hw := hid (show wnum s = some v by unfold wnum; rw [hp]; simp only; rw [if_pos he])
      have ht := str_is he
      clear hp he
      go_enter Tryz.func98, Tryz.ntmps98
      go_wp2_with fail
      refine hc.out.mono ?_
      rintro e w1 ⟨rfl, hw1⟩
      have S1 : Step w0 [] w1 r := by
        rcases hw1 with rfl | ⟨t, rfl⟩
        · exact hS
        · exact hS.below (Lib.bytesWorld_below _ _ _)
      clear hw1
      have hcall := hid (wtext_any S1 hG v hv.1 hv.2)
      clear S1
      go_wp2_with fail
      refine hcall.out.mono ?_
      rintro e w2 ⟨rfl, S2⟩
      replace S2 := hid S2
      go_wp2_with fail
      go_ret2
      rw [hw.out]
      exact ⟨rfl, S2.out⟩
    · have hw := hid (show wnum s = none by unfold wnum; rw [hp]; simp only; rw [if_neg he])
      have ht := str_isnt he
      clear hp he
      go_enter Tryz.func98, Tryz.ntmps98
      go_wp2_with fail
      refine hc.out.mono ?_
      rintro e w1 ⟨rfl, hw1⟩
      have S1 : Step w0 [] w1 r := by
        rcases hw1 with rfl | ⟨t, rfl⟩
        · exact hS
        · exact hS.below (Lib.bytesWorld_below _ _ _)
      clear hw1
      have hcall := hid (wtext_any S1 hG v hv.1 hv.2)
      clear S1
      go_wp2_with fail
      refine hcall.out.mono ?_
      rintro e w2 ⟨rfl, S2⟩
      replace S2 := hid S2
      go_wp2_with fail
      go_ret2
      rw [hw.out]
      exact ⟨rfl, S2.out⟩
  | range =>
    have hw := hid (show wnum s = none by unfold wnum; rw [hp])
    obtain ⟨tp, p, hv⟩ := (hG.keep hS).rng
    have hc := hid (Tryz.strconv_ParseInt_10_at64_range_var s (by omega) hp tp p w hv)
    clear hp hv
    generalize Lib.intSat 64 s.data.toList = sat at hc
    go_enter Tryz.func98, Tryz.ntmps98
    go_wp2_with fail
    refine hc.out.mono ?_
    rintro e w1 ⟨N, rfl, _, _, hb⟩
    have S1 := hid (hS.below hb)
    clear hb
    go_wp2_with fail
    go_ret2
    rw [hw.out]
    exact ⟨rfl, S1.out⟩
  | _ =>
    have hw := hid (show wnum s = none by unfold wnum; rw [hp])
    obtain ⟨tp, p, hv⟩ := (hG.keep hS).syn
    have hc := hid (Tryz.strconv_ParseInt_10_at64_syntax_var s (by omega) hp tp p w hv)
    clear hp hv
    go_enter Tryz.func98, Tryz.ntmps98
    go_wp2_with fail
    refine hc.out.mono ?_
    rintro e w1 ⟨N, rfl, _, _, hb⟩
    have S1 := hid (hS.below hb)
    clear hb
    go_wp2_with fail
    go_ret2
    rw [hw.out]
    exact ⟨rfl, S1.out⟩

/-- Both together, if it is a number. -/
def wadd (a b : Int) : Option Int := if -9223372036854775808 ≤ a + b ∧ a + b ≤ 9223372036854775807 then some (a + b) else none
def wover (o : Option Int) : Int := if o.isSome then 0 else 12

theorem wadd_any (a b : Int) (w : World) (ha : -9223372036854775808 ≤ a ∧ a ≤ 9223372036854775807) (hb : -9223372036854775808 ≤ b ∧ b ≤ 9223372036854775807) :
    Calls Tryz.prog 154 #[.int .i64 a, .int .i64 b] w fun e w' => e = .returned (.tuple #[.int .i64 ((wadd a b).getD 0), .int .i64 (wover (wadd a b))]) ∧ w' = w := by
  obtain ⟨a0, a1⟩ := ha
  obtain ⟨b0, b1⟩ := hb
  rcases Int.lt_trichotomy b 0 with h | h | h
  · by_cases h2 : a < -9223372036854775808 - b
    · have hw := hid (show wadd a b = none by unfold wadd; rw [if_neg (by omega)])
      go_enter Tryz.func154, Tryz.ntmps154
      go_wp2_with fail
      go_ret2
      rw [hw.out]
      exact ⟨rfl, rfl⟩
    · have hw := hid (show wadd a b = some (a + b) by unfold wadd; rw [if_pos (by omega)])
      have hs0 : -9223372036854775808 ≤ a + b := by omega
      have hs1 : a + b ≤ 9223372036854775807 := by omega
      go_enter Tryz.func154, Tryz.ntmps154
      go_wp2_with fail
      go_ret2
      rw [hw.out]
      exact ⟨rfl, rfl⟩
  · subst h
    have hw := hid (show wadd a 0 = some a by unfold wadd; rw [if_pos (by omega)]; simp)
    go_enter Tryz.func154, Tryz.ntmps154
    go_wp2_with fail
    go_ret2
    rw [hw.out]
    exact ⟨rfl, rfl⟩
  · by_cases h2 : 9223372036854775807 - b < a
    · have hw := hid (show wadd a b = none by unfold wadd; rw [if_neg (by omega)])
      go_enter Tryz.func154, Tryz.ntmps154
      go_wp2_with fail
      go_ret2
      rw [hw.out]
      exact ⟨rfl, rfl⟩
    · have hw := hid (show wadd a b = some (a + b) by unfold wadd; rw [if_pos (by omega)])
      have hs0 : -9223372036854775808 ≤ a + b := by omega
      have hs1 : a + b ≤ 9223372036854775807 := by omega
      go_enter Tryz.func154, Tryz.ntmps154
      go_wp2_with fail
      go_ret2
      rw [hw.out]
      exact ⟨rfl, rfl⟩

end Go.Proofs.YthfngplckbggpaaGreatDoor
