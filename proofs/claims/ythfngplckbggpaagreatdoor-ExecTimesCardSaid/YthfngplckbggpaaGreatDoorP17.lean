/-
  texts.told.
  value.Copy of a value that has no list.
  words.odd.
  words.spec.
-/
import Derived.Test.YthfngplckbggpaaGreatDoorP16
import Derived.Deep.LoopGhost
set_option linter.unusedVariables false
set_option linter.unusedSimpArgs false
namespace Go.Proofs.YthfngplckbggpaaGreatDoor
open Go Go.RowKit

structure Cells6 (w : World) (b : Nat) : Prop where
  c0 : ∃ x, w.cell? ⟨b, 0, none⟩ = some x
  c1 : ∃ x, w.cell? ⟨b, 1, none⟩ = some x
  c2 : ∃ x, w.cell? ⟨b, 2, none⟩ = some x
  c3 : ∃ x, w.cell? ⟨b, 3, none⟩ = some x
  c4 : ∃ x, w.cell? ⟨b, 4, none⟩ = some x
  c5 : ∃ x, w.cell? ⟨b, 5, none⟩ = some x
  fz : ∀ j, w.frozen? ⟨b, j, none⟩ = false
  lt : b < w.heap.size

theorem cells6 {w : World} {b : Nat} {r : Hp} {o0 o1 o2 o3 o4 o5 : Value} (h : Own w ((b, .cells #[o0, o1, o2, o3, o4, o5] 28 (0, 0)) :: r)) : Cells6 w b :=
  ⟨⟨_, cells_get h.head 0⟩, ⟨_, cells_get h.head 1⟩, ⟨_, cells_get h.head 2⟩, ⟨_, cells_get h.head 3⟩, ⟨_, cells_get h.head 4⟩, ⟨_, cells_get h.head 5⟩, fun j => cells_free h.head j, block_lt h.head⟩

set_option maxRecDepth 100000 in
theorem told_nil {w0 w : World} {r : Hp} (hS : Step w0 [] w r) (kind : Int) (text : ByteArray) (v : Value) :
    Calls Tryz.prog 42 #[itemVal kind text v, .bool false] w (AnsPost w0 r (ansVal 6 ByteArray.empty 0 (.slice none 0 0))) := by
  have S1 := (hS.alloc (.cells #[.int .i64 kind, .string text, v] 62)).alloc (.cells #[.int .i64 0, .string ByteArray.empty, .int .i64 0, .float .f64 0, .bool false, .slice none 0 0] 28)
  rw [World.size_alloc] at S1
  have hnil := hid (vnil_any S1)
  clear hS S1
  go_enter Tryz.func42, Tryz.ntmps42
  unfold itemVal
  go_wp2_with fail
  refine hnil.out.mono ?_
  rintro e w1 ⟨rfl, S2⟩
  obtain ⟨⟨c0, hc0⟩, ⟨c1, hc1⟩, ⟨c2, hc2⟩, ⟨c3, hc3⟩, ⟨c4, hc4⟩, ⟨c5, hc5⟩, fz, hlt⟩ := cells6 S2.own
  have hlast := hid (((((((S2.set 0 (.int .i64 6)).set 1 (.string ByteArray.empty)).set 2 (.int .i64 0)).set 3 (.float .f64 0)).set 4 (.bool false)).set 5 (.slice none 0 0)).less ((List.sublist_cons_self _ _).trans (List.sublist_cons_self _ _)))
  clear S2 hnil
  unfold ansVal
  go_wp2_with fail
  refine bodyPost_ret (v := ansVal 6 ByteArray.empty 0 (.slice none 0 0)) (by simp [results, Tryz.results42, go_sem, ansVal, *] <;> rfl) rfl ?_
  exact ⟨rfl, hlast.out⟩

set_option maxRecDepth 100000 in
theorem told_hash {w0 w : World} {r : Hp} (hS : Step w0 [] w r) (text : ByteArray) (v : Value) :
    Calls Tryz.prog 42 #[itemVal 2 text v, .bool true] w (AnsPost w0 r (ansVal 2 (errText 91) 0 (.slice none 0 0))) := by
  have S1 := (hS.alloc (.cells #[.int .i64 2, .string text, v] 62)).alloc (.cells #[.int .i64 0, .string ByteArray.empty, .int .i64 0, .float .f64 0, .bool false, .slice none 0 0] 28)
  rw [World.size_alloc] at S1
  have hnil := hid (tfail_any S1 91 (by unfold errKnown; omega))
  clear hS S1
  generalize errText 91 = t at hnil ⊢
  go_enter Tryz.func42, Tryz.ntmps42
  unfold itemVal
  go_wp2_with fail
  refine hnil.out.mono ?_
  rintro e w1 ⟨rfl, S2⟩
  obtain ⟨⟨c0, hc0⟩, ⟨c1, hc1⟩, ⟨c2, hc2⟩, ⟨c3, hc3⟩, ⟨c4, hc4⟩, ⟨c5, hc5⟩, fz, hlt⟩ := cells6 S2.own
  have hlast := hid (((((((S2.set 0 (.int .i64 2)).set 1 (.string (t))).set 2 (.int .i64 0)).set 3 (.float .f64 0)).set 4 (.bool false)).set 5 (.slice none 0 0)).less ((List.sublist_cons_self _ _).trans (List.sublist_cons_self _ _)))
  clear S2 hnil
  unfold ansVal
  go_wp2_with fail
  refine bodyPost_ret (v := ansVal 2 (t) 0 (.slice none 0 0)) (by simp [results, Tryz.results42, go_sem, ansVal, *] <;> rfl) rfl ?_
  exact ⟨rfl, hlast.out⟩

set_option maxRecDepth 100000 in
theorem told_text {w0 w : World} {r : Hp} (hS : Step w0 [] w r) (kind : Int) (text : ByteArray) (v : Value) (hk : ¬ kind = 2) :
    Calls Tryz.prog 42 #[itemVal kind text v, .bool true] w (AnsPost w0 r (ansVal 4 text 0 (.slice none 0 0))) := by
  have S1 := (hS.alloc (.cells #[.int .i64 kind, .string text, v] 62)).alloc (.cells #[.int .i64 0, .string ByteArray.empty, .int .i64 0, .float .f64 0, .bool false, .slice none 0 0] 28)
  rw [World.size_alloc] at S1
  have hnil := hid (vtext_any S1 text)
  have hk2 : (kind == 2) = false := by simpa using hk
  clear hS S1
  go_enter Tryz.func42, Tryz.ntmps42
  unfold itemVal
  go_wp2_with fail
  refine hnil.out.mono ?_
  rintro e w1 ⟨rfl, S2⟩
  obtain ⟨⟨c0, hc0⟩, ⟨c1, hc1⟩, ⟨c2, hc2⟩, ⟨c3, hc3⟩, ⟨c4, hc4⟩, ⟨c5, hc5⟩, fz, hlt⟩ := cells6 S2.own
  have hlast := hid (((((((S2.set 0 (.int .i64 4)).set 1 (.string text)).set 2 (.int .i64 0)).set 3 (.float .f64 0)).set 4 (.bool false)).set 5 (.slice none 0 0)).less ((List.sublist_cons_self _ _).trans (List.sublist_cons_self _ _)))
  clear S2 hnil
  unfold ansVal
  go_wp2_with fail
  refine bodyPost_ret (v := ansVal 4 text 0 (.slice none 0 0)) (by simp [results, Tryz.results42, go_sem, ansVal, *] <;> rfl) rfl ?_
  exact ⟨rfl, hlast.out⟩

end Go.Proofs.YthfngplckbggpaaGreatDoor

namespace Go.Proofs.YthfngplckbggpaaGreatDoor
open Go Go.RowKit

set_option maxRecDepth 100000 in
theorem vcopy_leaf {w0 w : World} {r : Hp} (hS : Step w0 [] w r) (kind : Int) (text : ByteArray) (n : Int) :
    Calls Tryz.prog 153 #[ansVal kind text n (.slice none 0 0)] w (AnsPost w0 r (ansVal kind text n (.slice none 0 0))) := by
  have S1 := hid (((hS.alloc (.cells #[.int .i64 kind, .string text, .int .i64 n, .float .f64 0, .bool false, .slice none 0 0] 28)).alloc (.cells #[.int .i64 kind, .string text, .int .i64 n, .float .f64 0, .bool false, .slice none 0 0] 28)).less ((List.sublist_cons_self _ _).trans (List.sublist_cons_self _ _)))
  clear hS
  go_enter Tryz.func153, Tryz.ntmps153
  unfold ansVal
  go_wp2_with fail
  go_loopg [3, 9] 0 (fun k x i wr => x = .slice none 0 0 ∧ i = .int .i64 0 ∧ wr = (w.alloc (.cells #[.int .i64 kind, .string text, .int .i64 n, .float .f64 0, .bool false, .slice none 0 0] 28)).alloc (.cells #[.int .i64 0, .string ByteArray.empty, .int .i64 0, .float .f64 0, .bool false, .slice none 0 0] 28))
  case atStart => exact ⟨rfl, rfl, rfl⟩
  case round =>
    obtain ⟨rfl, rfl, rfl⟩ := hrel
    go_wp2_with fail
    refine bodyPost_ret (v := ansVal kind text n (.slice none 0 0)) (by simp [results, Tryz.results153, go_sem, ansVal, *] <;> rfl) rfl ?_
    exact ⟨rfl, S1.out⟩

end Go.Proofs.YthfngplckbggpaaGreatDoor

namespace Go.Proofs.YthfngplckbggpaaGreatDoor
open Go Go.RowKit

/-- A command, as a value. -/
def specVal (name : ByteArray) (kind least most first last step : Int) : Value := .agg #[.string name, .int .i64 kind, .int .i64 least, .int .i64 most, .int .i64 first, .int .i64 last, .int .i64 step]

/-- Words that come in pairs, and don't. -/
def isOdd (name : ByteArray) (many : Int) : Bool := (decide (name.toList = [77, 83, 69, 84]) && decide (many.tmod 2 = 0)) || (decide (name.toList = [72, 83, 69, 84]) && decide (many.tmod 2 = 1))

set_option maxRecDepth 100000 in
theorem odd_any {w0 w : World} {r : Hp} (hS : Step w0 [] w r) (name : ByteArray) (kind least most first last step : Int) (many : Int) :
    Calls Tryz.prog 40 #[specVal name kind least most first last step, .int .i64 many] w (AnsPost w0 r (.bool (isOdd name many))) := by
  have S1 := hid ((hS.alloc (.cells #[.string name, .int .i64 kind, .int .i64 least, .int .i64 most, .int .i64 first, .int .i64 last, .int .i64 step] 48)).less (List.sublist_cons_self _ _))
  obtain ⟨b, hb⟩ : ∃ b, isOdd name many = b := ⟨_, rfl⟩
  rw [hb]
  replace hb := hid hb
  clear hS
  go_enter Tryz.func40, Tryz.ntmps40
  unfold specVal
  go_wp2_with fail
  all_goals go_ret
  all_goals exact ⟨congrArg (fun x : Bool => Ending.returned (Value.bool x)) (by rw [← hb.out]; simp [isOdd, *] <;> rfl), S1.out⟩

end Go.Proofs.YthfngplckbggpaaGreatDoor

namespace Go.Proofs.YthfngplckbggpaaGreatDoor
open Go Go.RowKit

set_option maxRecDepth 100000 in
set_option maxHeartbeats 1000000 in
theorem spec_any {w0 w : World} {r : Hp} {g : Nat} {a b c d f : Int} (hS : Step w0 [] w ((g, .cells #[.int .i64 a, .int .i64 b, .int .i64 c, .int .i64 d, .int .i64 f] 3 (0, 0)) :: r)) (name : ByteArray) (kind : Int) :
    Calls Tryz.prog 136 #[.string name, .int .i64 kind, .slice (some ⟨g, 0, none⟩) 5 5] w (AnsPost w0 r (specVal name kind a b c d f)) := by
  have S1 := hS.alloc (.cells #[.string ByteArray.empty, .int .i64 0, .int .i64 0, .int .i64 0, .int .i64 0, .int .i64 0, .int .i64 0] 48)
  have x0 : ∀ p : InW w0 [] ((w.heap.size, .cells #[.string ByteArray.empty, .int .i64 0, .int .i64 0, .int .i64 0, .int .i64 0, .int .i64 0, .int .i64 0] 48 (0, 0)) :: (g, .cells #[.int .i64 a, .int .i64 b, .int .i64 c, .int .i64 d, .int .i64 f] 3 (0, 0)) :: r), p.w.cell? ⟨g, 0, none⟩ = some (.int .i64 a) := fun p => cells_get p.h.own.tail.head 0
  have x1 : ∀ p : InW w0 [] ((w.heap.size, .cells #[.string ByteArray.empty, .int .i64 0, .int .i64 0, .int .i64 0, .int .i64 0, .int .i64 0, .int .i64 0] 48 (0, 0)) :: (g, .cells #[.int .i64 a, .int .i64 b, .int .i64 c, .int .i64 d, .int .i64 f] 3 (0, 0)) :: r), p.w.cell? ⟨g, 1, none⟩ = some (.int .i64 b) := fun p => cells_get p.h.own.tail.head 1
  have x2 : ∀ p : InW w0 [] ((w.heap.size, .cells #[.string ByteArray.empty, .int .i64 0, .int .i64 0, .int .i64 0, .int .i64 0, .int .i64 0, .int .i64 0] 48 (0, 0)) :: (g, .cells #[.int .i64 a, .int .i64 b, .int .i64 c, .int .i64 d, .int .i64 f] 3 (0, 0)) :: r), p.w.cell? ⟨g, 2, none⟩ = some (.int .i64 c) := fun p => cells_get p.h.own.tail.head 2
  have x3 : ∀ p : InW w0 [] ((w.heap.size, .cells #[.string ByteArray.empty, .int .i64 0, .int .i64 0, .int .i64 0, .int .i64 0, .int .i64 0, .int .i64 0] 48 (0, 0)) :: (g, .cells #[.int .i64 a, .int .i64 b, .int .i64 c, .int .i64 d, .int .i64 f] 3 (0, 0)) :: r), p.w.cell? ⟨g, 3, none⟩ = some (.int .i64 d) := fun p => cells_get p.h.own.tail.head 3
  have x4 : ∀ p : InW w0 [] ((w.heap.size, .cells #[.string ByteArray.empty, .int .i64 0, .int .i64 0, .int .i64 0, .int .i64 0, .int .i64 0, .int .i64 0] 48 (0, 0)) :: (g, .cells #[.int .i64 a, .int .i64 b, .int .i64 c, .int .i64 d, .int .i64 f] 3 (0, 0)) :: r), p.w.cell? ⟨g, 4, none⟩ = some (.int .i64 f) := fun p => cells_get p.h.own.tail.head 4
  replace S1 := hid S1
  clear hS
  go_enter Tryz.func136, Tryz.ntmps136
  go_wp2_with fail
  refine wp_region_tail 18 S1.out (by kernel_rfl) (by kernel_rfl) (fun hne => ?_)
  simp only [List.take_succ_cons, List.take_zero, List.drop_succ_cons, List.drop_zero]
  repeat (go_big_quiet_step (fail))
  refine tail_nil fun w2 S2 => ?_
  clear x0 x1 x2 x3 x4 hne S1
  have hb := S2.own.head
  obtain ⟨y0, hy0⟩ : ∃ x, w2.cell? ⟨w.heap.size, 0, none⟩ = some x := ⟨_, cells_get hb 0⟩
  obtain ⟨y1, hy1⟩ : ∃ x, w2.cell? ⟨w.heap.size, 1, none⟩ = some x := ⟨_, cells_get hb 1⟩
  obtain ⟨y2, hy2⟩ : ∃ x, w2.cell? ⟨w.heap.size, 2, none⟩ = some x := ⟨_, cells_get hb 2⟩
  obtain ⟨y3, hy3⟩ : ∃ x, w2.cell? ⟨w.heap.size, 3, none⟩ = some x := ⟨_, cells_get hb 3⟩
  obtain ⟨y4, hy4⟩ : ∃ x, w2.cell? ⟨w.heap.size, 4, none⟩ = some x := ⟨_, cells_get hb 4⟩
  obtain ⟨y5, hy5⟩ : ∃ x, w2.cell? ⟨w.heap.size, 5, none⟩ = some x := ⟨_, cells_get hb 5⟩
  obtain ⟨y6, hy6⟩ : ∃ x, w2.cell? ⟨w.heap.size, 6, none⟩ = some x := ⟨_, cells_get hb 6⟩
  have fz : ∀ j, w2.frozen? ⟨w.heap.size, j, none⟩ = false := fun j => cells_free hb j
  have hlt := block_lt hb
  have hlast := hid ((((((((S2.set 0 (.string name)).set 1 (.int .i64 kind)).set 2 (.int .i64 a)).set 3 (.int .i64 b)).set 4 (.int .i64 c)).set 5 (.int .i64 d)).set 6 (.int .i64 f)).less ((List.sublist_cons_self _ _).trans (List.sublist_cons_self _ _)))
  clear hb S2
  go_wp2_with fail
  refine bodyPost_ret (v := specVal name kind a b c d f) (by simp [results, Tryz.results136, go_sem, specVal, *] <;> rfl) rfl ?_
  exact ⟨rfl, hlast.out⟩

end Go.Proofs.YthfngplckbggpaaGreatDoor
