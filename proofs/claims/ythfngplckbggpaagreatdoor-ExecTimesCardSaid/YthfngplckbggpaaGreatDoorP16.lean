/-
  words.Error at the codes that it knows (printed by gen_err.py).
  fields.fail, texts.fail.
  item.Append.
  item.Add to a text.
-/
import Derived.Test.YthfngplckbggpaaGreatDoorP15
set_option linter.unusedVariables false
set_option linter.unusedSimpArgs false
namespace Go.Proofs.YthfngplckbggpaaGreatDoor
open Go Go.RowKit

def errText (e : Int) : ByteArray :=
  if e = 11 then ⟨#[69, 82, 82, 32, 118, 97, 108, 117, 101, 32, 105, 115, 32, 110, 111, 116, 32, 97, 110, 32, 105, 110, 116, 101, 103, 101, 114, 32, 111, 114, 32, 111, 117, 116, 32, 111, 102, 32, 114, 97, 110, 103, 101]⟩ else
  if e = 92 then ⟨#[69, 82, 82, 32, 118, 97, 108, 117, 101, 32, 105, 115, 32, 110, 111, 116, 32, 97, 110, 32, 105, 110, 116, 101, 103, 101, 114, 32, 111, 114, 32, 111, 117, 116, 32, 111, 102, 32, 114, 97, 110, 103, 101]⟩ else
  if e = 111 then ⟨#[69, 82, 82, 32, 118, 97, 108, 117, 101, 32, 105, 115, 32, 110, 111, 116, 32, 97, 110, 32, 105, 110, 116, 101, 103, 101, 114, 32, 111, 114, 32, 111, 117, 116, 32, 111, 102, 32, 114, 97, 110, 103, 101]⟩ else
  if e = 12 then ⟨#[69, 82, 82, 32, 105, 110, 99, 114, 101, 109, 101, 110, 116, 32, 111, 114, 32, 100, 101, 99, 114, 101, 109, 101, 110, 116, 32, 119, 111, 117, 108, 100, 32, 111, 118, 101, 114, 102, 108, 111, 119]⟩ else
  if e = 93 then ⟨#[69, 82, 82, 32, 118, 97, 108, 117, 101, 32, 105, 115, 32, 110, 111, 116, 32, 97, 32, 118, 97, 108, 105, 100, 32, 102, 108, 111, 97, 116]⟩ else
  if e = 21 then ⟨#[69, 82, 82, 32, 105, 110, 99, 114, 101, 109, 101, 110, 116, 32, 119, 111, 117, 108, 100, 32, 112, 114, 111, 100, 117, 99, 101, 32, 78, 97, 78, 32, 111, 114, 32, 73, 110, 102, 105, 110, 105, 116, 121]⟩ else
  if e = 91 then ⟨#[87, 82, 79, 78, 71, 84, 89, 80, 69, 32, 79, 112, 101, 114, 97, 116, 105, 111, 110, 32, 97, 103, 97, 105, 110, 115, 116, 32, 97, 32, 107, 101, 121, 32, 104, 111, 108, 100, 105, 110, 103, 32, 116, 104, 101, 32, 119, 114, 111, 110, 103, 32, 107, 105, 110, 100, 32, 111, 102, 32, 118, 97, 108, 117, 101]⟩ else
  if e = 94 then ⟨#[69, 82, 82, 32, 118, 97, 108, 117, 101, 32, 105, 115, 32, 116, 111, 111, 32, 108, 111, 110, 103]⟩ else
  if e = 31 then ⟨#[69, 82, 82, 32, 118, 97, 108, 117, 101, 32, 105, 115, 32, 116, 111, 111, 32, 108, 111, 110, 103]⟩ else
  if e = 121 then ⟨#[79, 79, 77, 32, 99, 111, 109, 109, 97, 110, 100, 32, 110, 111, 116, 32, 97, 108, 108, 111, 119, 101, 100, 32, 119, 104, 101, 110, 32, 117, 115, 101, 100, 32, 109, 101, 109, 111, 114, 121, 32, 105, 115, 32, 102, 117, 108, 108]⟩ else
  if e = 131 then ⟨#[69, 82, 82, 32, 115, 121, 110, 116, 97, 120, 32, 101, 114, 114, 111, 114]⟩ else
  if e = 132 then ⟨#[69, 82, 82, 32, 111, 112, 116, 105, 111, 110, 115, 32, 100, 111, 32, 110, 111, 116, 32, 103, 111, 32, 116, 111, 103, 101, 116, 104, 101, 114]⟩ else
  ByteArray.empty
def errKnown (e : Int) : Prop := e = 11 ∨ e = 92 ∨ e = 111 ∨ e = 12 ∨ e = 93 ∨ e = 21 ∨ e = 91 ∨ e = 94 ∨ e = 31 ∨ e = 121 ∨ e = 131 ∨ e = 132

theorem werr_11 (w : World) : Calls Tryz.prog 112 #[.int .i64 11] w fun x w' => x = .returned (.string (errText 11)) ∧ w = w' := by
  go_enter Tryz.func112, Tryz.ntmps112
  go_wp2_with fail
  go_ret
  exact ⟨rfl, rfl⟩
theorem werr_92 (w : World) : Calls Tryz.prog 112 #[.int .i64 92] w fun x w' => x = .returned (.string (errText 92)) ∧ w = w' := by
  go_enter Tryz.func112, Tryz.ntmps112
  go_wp2_with fail
  go_ret
  exact ⟨rfl, rfl⟩
theorem werr_111 (w : World) : Calls Tryz.prog 112 #[.int .i64 111] w fun x w' => x = .returned (.string (errText 111)) ∧ w = w' := by
  go_enter Tryz.func112, Tryz.ntmps112
  go_wp2_with fail
  go_ret
  exact ⟨rfl, rfl⟩
theorem werr_12 (w : World) : Calls Tryz.prog 112 #[.int .i64 12] w fun x w' => x = .returned (.string (errText 12)) ∧ w = w' := by
  go_enter Tryz.func112, Tryz.ntmps112
  go_wp2_with fail
  go_ret
  exact ⟨rfl, rfl⟩
theorem werr_93 (w : World) : Calls Tryz.prog 112 #[.int .i64 93] w fun x w' => x = .returned (.string (errText 93)) ∧ w = w' := by
  go_enter Tryz.func112, Tryz.ntmps112
  go_wp2_with fail
  go_ret
  exact ⟨rfl, rfl⟩
theorem werr_21 (w : World) : Calls Tryz.prog 112 #[.int .i64 21] w fun x w' => x = .returned (.string (errText 21)) ∧ w = w' := by
  go_enter Tryz.func112, Tryz.ntmps112
  go_wp2_with fail
  go_ret
  exact ⟨rfl, rfl⟩
theorem werr_91 (w : World) : Calls Tryz.prog 112 #[.int .i64 91] w fun x w' => x = .returned (.string (errText 91)) ∧ w = w' := by
  go_enter Tryz.func112, Tryz.ntmps112
  go_wp2_with fail
  go_ret
  exact ⟨rfl, rfl⟩
theorem werr_94 (w : World) : Calls Tryz.prog 112 #[.int .i64 94] w fun x w' => x = .returned (.string (errText 94)) ∧ w = w' := by
  go_enter Tryz.func112, Tryz.ntmps112
  go_wp2_with fail
  go_ret
  exact ⟨rfl, rfl⟩
theorem werr_31 (w : World) : Calls Tryz.prog 112 #[.int .i64 31] w fun x w' => x = .returned (.string (errText 31)) ∧ w = w' := by
  go_enter Tryz.func112, Tryz.ntmps112
  go_wp2_with fail
  go_ret
  exact ⟨rfl, rfl⟩
theorem werr_121 (w : World) : Calls Tryz.prog 112 #[.int .i64 121] w fun x w' => x = .returned (.string (errText 121)) ∧ w = w' := by
  go_enter Tryz.func112, Tryz.ntmps112
  go_wp2_with fail
  go_ret
  exact ⟨rfl, rfl⟩
theorem werr_131 (w : World) : Calls Tryz.prog 112 #[.int .i64 131] w fun x w' => x = .returned (.string (errText 131)) ∧ w = w' := by
  go_enter Tryz.func112, Tryz.ntmps112
  go_wp2_with fail
  go_ret
  exact ⟨rfl, rfl⟩
theorem werr_132 (w : World) : Calls Tryz.prog 112 #[.int .i64 132] w fun x w' => x = .returned (.string (errText 132)) ∧ w = w' := by
  go_enter Tryz.func112, Tryz.ntmps112
  go_wp2_with fail
  go_ret
  exact ⟨rfl, rfl⟩

theorem werr_any (w : World) (e : Int) (h : errKnown e) : Calls Tryz.prog 112 #[.int .i64 e] w fun x w' => x = .returned (.string (errText e)) ∧ w = w' := by
  rcases h with rfl | rfl | rfl | rfl | rfl | rfl | rfl | rfl | rfl | rfl | rfl | rfl
  · exact werr_11 w
  · exact werr_92 w
  · exact werr_111 w
  · exact werr_12 w
  · exact werr_93 w
  · exact werr_21 w
  · exact werr_91 w
  · exact werr_94 w
  · exact werr_31 w
  · exact werr_121 w
  · exact werr_131 w
  · exact werr_132 w

end Go.Proofs.YthfngplckbggpaaGreatDoor

namespace Go.Proofs.YthfngplckbggpaaGreatDoor
open Go Go.RowKit

set_option maxRecDepth 100000 in
theorem ffail_any {w0 w : World} {r : Hp} (hS : Step w0 [] w r) (c : Int) (h : errKnown c) :
    Calls Tryz.prog 55 #[.int .i64 c] w (AnsPost w0 r (ansVal 2 (errText c) 0 (.slice none 0 0))) := by
  have S1 := (hS.alloc (.cells #[.int .i64 0, .string ByteArray.empty, .int .i64 0, .float .f64 0, .bool false, .slice none 0 0] 28))
  have herr := hid (werr_any (w.alloc (.cells #[.int .i64 0, .string ByteArray.empty, .int .i64 0, .float .f64 0, .bool false, .slice none 0 0] 28)) c h)
  have hfail := hid (vfail_any S1 (errText c))
  clear hS S1 h
  generalize errText c = t at herr hfail ⊢
  go_enter Tryz.func55, Tryz.ntmps55
  go_wp2_with fail
  refine herr.out.mono ?_
  rintro e w1 ⟨rfl, rfl⟩
  clear herr
  go_wp2_with fail
  refine hfail.out.mono ?_
  rintro e w1 ⟨rfl, S2⟩
  generalize w.heap.size = b at S2 ⊢
  have hb := S2.own.head
  obtain ⟨c0, hc0⟩ : ∃ x, w1.cell? ⟨b, 0, none⟩ = some x := ⟨_, cells_get hb 0⟩
  obtain ⟨c1, hc1⟩ : ∃ x, w1.cell? ⟨b, 1, none⟩ = some x := ⟨_, cells_get hb 1⟩
  obtain ⟨c2, hc2⟩ : ∃ x, w1.cell? ⟨b, 2, none⟩ = some x := ⟨_, cells_get hb 2⟩
  obtain ⟨c3, hc3⟩ : ∃ x, w1.cell? ⟨b, 3, none⟩ = some x := ⟨_, cells_get hb 3⟩
  obtain ⟨c4, hc4⟩ : ∃ x, w1.cell? ⟨b, 4, none⟩ = some x := ⟨_, cells_get hb 4⟩
  obtain ⟨c5, hc5⟩ : ∃ x, w1.cell? ⟨b, 5, none⟩ = some x := ⟨_, cells_get hb 5⟩
  have fz : ∀ j, w1.frozen? ⟨b, j, none⟩ = false := fun j => cells_free hb j
  have hlt := block_lt hb
  have hlast := hid (((((((S2.set 0 (.int .i64 2)).set 1 (.string t)).set 2 (.int .i64 0)).set 3 (.float .f64 0)).set 4 (.bool false)).set 5 (.slice none 0 0)).less (List.sublist_cons_self _ _))
  clear hb S2 hfail
  unfold ansVal
  go_wp2_with fail
  refine bodyPost_ret (v := ansVal 2 t 0 (.slice none 0 0)) (by simp [results, Tryz.results55, go_sem, ansVal, *] <;> rfl) rfl ?_
  exact ⟨rfl, hlast.out⟩

set_option maxRecDepth 100000 in
theorem tfail_any {w0 w : World} {r : Hp} (hS : Step w0 [] w r) (c : Int) (h : errKnown c) :
    Calls Tryz.prog 87 #[.int .i64 c] w (AnsPost w0 r (ansVal 2 (errText c) 0 (.slice none 0 0))) := by
  have S1 := (hS.alloc (.cells #[.int .i64 0, .string ByteArray.empty, .int .i64 0, .float .f64 0, .bool false, .slice none 0 0] 28))
  have herr := hid (werr_any (w.alloc (.cells #[.int .i64 0, .string ByteArray.empty, .int .i64 0, .float .f64 0, .bool false, .slice none 0 0] 28)) c h)
  have hfail := hid (vfail_any S1 (errText c))
  clear hS S1 h
  generalize errText c = t at herr hfail ⊢
  go_enter Tryz.func87, Tryz.ntmps87
  go_wp2_with fail
  refine herr.out.mono ?_
  rintro e w1 ⟨rfl, rfl⟩
  clear herr
  go_wp2_with fail
  refine hfail.out.mono ?_
  rintro e w1 ⟨rfl, S2⟩
  generalize w.heap.size = b at S2 ⊢
  have hb := S2.own.head
  obtain ⟨c0, hc0⟩ : ∃ x, w1.cell? ⟨b, 0, none⟩ = some x := ⟨_, cells_get hb 0⟩
  obtain ⟨c1, hc1⟩ : ∃ x, w1.cell? ⟨b, 1, none⟩ = some x := ⟨_, cells_get hb 1⟩
  obtain ⟨c2, hc2⟩ : ∃ x, w1.cell? ⟨b, 2, none⟩ = some x := ⟨_, cells_get hb 2⟩
  obtain ⟨c3, hc3⟩ : ∃ x, w1.cell? ⟨b, 3, none⟩ = some x := ⟨_, cells_get hb 3⟩
  obtain ⟨c4, hc4⟩ : ∃ x, w1.cell? ⟨b, 4, none⟩ = some x := ⟨_, cells_get hb 4⟩
  obtain ⟨c5, hc5⟩ : ∃ x, w1.cell? ⟨b, 5, none⟩ = some x := ⟨_, cells_get hb 5⟩
  have fz : ∀ j, w1.frozen? ⟨b, j, none⟩ = false := fun j => cells_free hb j
  have hlt := block_lt hb
  have hlast := hid (((((((S2.set 0 (.int .i64 2)).set 1 (.string t)).set 2 (.int .i64 0)).set 3 (.float .f64 0)).set 4 (.bool false)).set 5 (.slice none 0 0)).less (List.sublist_cons_self _ _))
  clear hb S2 hfail
  unfold ansVal
  go_wp2_with fail
  refine bodyPost_ret (v := ansVal 2 t 0 (.slice none 0 0)) (by simp [results, Tryz.results87, go_sem, ansVal, *] <;> rfl) rfl ?_
  exact ⟨rfl, hlast.out⟩

end Go.Proofs.YthfngplckbggpaaGreatDoor

namespace Go.Proofs.YthfngplckbggpaaGreatDoor
open Go Go.RowKit

/-- To an item that is no hash. -/
def AppPost (w0 : World) (r : Hp) (v : Value) (c : Int) (e : Ending) (w' : World) : Prop := e = .returned (.tuple #[v, .int .i64 c]) ∧ Step w0 [] w' r

set_option maxRecDepth 100000 in
theorem iapp_big {w0 w : World} {r : Hp} (hS : Step w0 [] w r) (kind : Int) (hk : ¬ kind = 2) (text s : ByteArray) (ht : text.size ≤ 4096) (hs : s.size ≤ 1099511627776) (hb : 4096 < text.size + s.size) :
    Calls Tryz.prog 102 #[itemVal kind text (.slice none 0 0), .string s] w (AppPost w0 r (itemVal kind text (.slice none 0 0)) 94) := by
  have S1 := hid (((hS.alloc (.cells #[.int .i64 kind, .string text, .slice none 0 0] 62)).alloc (.cells #[.int .i64 kind, .string text, .slice none 0 0] 62)).less ((List.sublist_cons_self _ _).trans (List.sublist_cons_self _ _)))
  have hk2 : (kind == 2) = false := by simpa using hk
  have hb2 : (4096 : Int) - min (text.size : Int) 4096 < (s.size : Int) := by omega
  clear hS
  go_enter Tryz.func102, Tryz.ntmps102
  unfold itemVal
  go_wp2_with fail
  refine bodyPost_ret (v := .tuple #[itemVal kind text (.slice none 0 0), .int .i64 94]) (by simp [results, Tryz.results102, go_sem, itemVal, *] <;> rfl) rfl ?_
  exact ⟨rfl, S1.out⟩

set_option maxRecDepth 100000 in
theorem iapp_small {w0 w : World} {r : Hp} (hS : Step w0 [] w r) (kind : Int) (hk : ¬ kind = 2) (text s : ByteArray) (hb : text.size + s.size ≤ 4096) :
    Calls Tryz.prog 102 #[itemVal kind text (.slice none 0 0), .string s] w (AppPost w0 r (itemVal 1 (text ++ s) (.slice none 0 0)) 0) := by
  have S1 := (hS.alloc (.cells #[.int .i64 kind, .string text, .slice none 0 0] 62)).alloc (.cells #[.int .i64 0, .string ByteArray.empty, .slice none 0 0] 62)
  have hcall := hid (itext_any S1 (text ++ s))
  have hk2 : (kind == 2) = false := by simpa using hk
  have hb2 : ¬ (4096 : Int) - min (text.size : Int) 4096 < (s.size : Int) := by omega
  have ht : text.size ≤ 4096 := by omega
  have hs : s.size ≤ 4096 := by omega
  clear hS S1
  go_enter Tryz.func102, Tryz.ntmps102
  unfold itemVal
  go_wp2_with fail
  refine hcall.out.mono ?_
  rintro e w1 ⟨rfl, S2⟩
  clear hcall
  rw [World.size_alloc] at S2
  generalize w.heap.size + 1 = b at S2 ⊢
  have hb := S2.own.head
  obtain ⟨x0, x1, x2, fz⟩ := cells3 hb
  have hlt := block_lt hb
  have hlast := hid ((((S2.set 0 (.int .i64 1)).set 1 (.string (text ++ s))).set 2 (.slice none 0 0)).less ((List.sublist_cons_self _ _).trans (List.sublist_cons_self _ _)))
  clear hb S2
  unfold itemVal
  go_wp2_with fail
  refine bodyPost_ret (v := .tuple #[itemVal 1 (text ++ s) (.slice none 0 0), .int .i64 0]) (by simp [results, Tryz.results102, go_sem, itemVal, *] <;> rfl) rfl ?_
  exact ⟨rfl, hlast.out⟩

end Go.Proofs.YthfngplckbggpaaGreatDoor

namespace Go.Proofs.YthfngplckbggpaaGreatDoor
open Go Go.RowKit

def AddPost (w0 : World) (r : Hp) (v : Value) (n c : Int) (e : Ending) (w' : World) : Prop := e = .returned (.tuple #[v, .int .i64 n, .int .i64 c]) ∧ Step w0 [] w' r

abbrev AddWorld (w : World) (text : ByteArray) : World := (w.alloc (.cells #[.int .i64 1, .string text, .slice none 0 0] 62)).alloc (.cells #[.int .i64 0, .string ByteArray.empty, .slice none 0 0] 62)

set_option maxRecDepth 100000 in
theorem iadd_not {w0 w : World} {r : Hp} (hS : Step w0 [] w r) (hG : Glob w0) (text : ByteArray) (ht : text.size ≤ 1099511627776) (hn : wnum text = none) (n : Int) :
    Calls Tryz.prog 96 #[itemVal 1 text (.slice none 0 0), .int .i64 n] w (AddPost w0 r (itemVal 1 text (.slice none 0 0)) 0 92) := by
  have S1 := (hS.alloc (.cells #[.int .i64 1, .string text, .slice none 0 0] 62)).alloc (.cells #[.int .i64 0, .string ByteArray.empty, .slice none 0 0] 62)
  rw [World.size_alloc] at S1
  have hpar := hid (wparse_any S1 hG text ht)
  have e1 : wcode (wnum text) = 11 := by rw [hn]; rfl
  have e2 : (wnum text).getD 0 = 0 := by rw [hn]; rfl
  rw [e1, e2] at hpar
  clear hS S1 e1 e2 hn
  go_enter Tryz.func96, Tryz.ntmps96
  unfold itemVal
  go_wp2_with fail
  refine hpar.out.mono ?_
  rintro e w1 ⟨rfl, S2⟩
  clear hpar
  have hne : ¬ w.heap.size = w.heap.size + 1 := by omega
  have hne2 : ¬ w.heap.size + 1 = w.heap.size := by omega
  have hb1 := S2.own.head
  have hb0 := S2.own.tail.head
  obtain ⟨x0, x1, x2, fz⟩ := cells3 hb0
  obtain ⟨y0, y1, y2, fz1⟩ := cells3 hb1
  have hlt := block_lt hb0
  have hlt1 := block_lt hb1
  have hlast := hid ((((S2.set 0 (.int .i64 1)).set 1 (.string text)).set 2 (.slice none 0 0)).less ((List.sublist_cons_self _ _).trans (List.sublist_cons_self _ _)))
  clear hb0 hb1 S2
  go_wp2_with fail
  refine bodyPost_ret (v := .tuple #[itemVal 1 text (.slice none 0 0), .int .i64 0, .int .i64 92]) (by simp [results, Tryz.results96, go_sem, itemVal, *] <;> rfl) rfl ?_
  exact ⟨rfl, hlast.out⟩

theorem wnum_bounds {s : ByteArray} {m : Int} (h : wnum s = some m) : -9223372036854775808 ≤ m ∧ m ≤ 9223372036854775807 := by
  unfold wnum at h
  split at h
  · rename_i v hp
    have hb := Lib.parseIntB_bounds hp
    split at h
    · simp only [Option.some.injEq] at h
      subst h
      constructor <;> simp at hb <;> omega
    · exact absurd h (by simp)
  · exact absurd h (by simp)

set_option maxRecDepth 100000 in
theorem iadd_over {w0 w : World} {r : Hp} (hS : Step w0 [] w r) (hG : Glob w0) (text : ByteArray) (ht : text.size ≤ 1099511627776) (m : Int) (hn : wnum text = some m) (n : Int) (hn1 : -9223372036854775808 ≤ n ∧ n ≤ 9223372036854775807) (ho : wadd m n = none) :
    Calls Tryz.prog 96 #[itemVal 1 text (.slice none 0 0), .int .i64 n] w (AddPost w0 r (itemVal 1 text (.slice none 0 0)) 0 12) := by
  have S1 := (hS.alloc (.cells #[.int .i64 1, .string text, .slice none 0 0] 62)).alloc (.cells #[.int .i64 0, .string ByteArray.empty, .slice none 0 0] 62)
  rw [World.size_alloc] at S1
  have hpar := hid (wparse_any S1 hG text ht)
  have e1 : wcode (wnum text) = 0 := by rw [hn]; rfl
  have e2 : (wnum text).getD 0 = m := by rw [hn]; rfl
  rw [e1, e2] at hpar
  have hadd : ∀ w', Hid _ := fun w' => hid (wadd_any m n w' (wnum_bounds hn) hn1)
  have e3 : wover (wadd m n) = 12 := by rw [ho]; rfl
  have e4 : (wadd m n).getD 0 = 0 := by rw [ho]; rfl
  rw [e3, e4] at hadd
  clear e3 e4 ho hn1
  clear hS S1 e1 e2 hn
  go_enter Tryz.func96, Tryz.ntmps96
  unfold itemVal
  go_wp2_with fail
  refine hpar.out.mono ?_
  rintro e w1 ⟨rfl, S2⟩
  clear hpar
  have hne : ¬ w.heap.size = w.heap.size + 1 := by omega
  have hne2 : ¬ w.heap.size + 1 = w.heap.size := by omega
  have hb1 := S2.own.head
  have hb0 := S2.own.tail.head
  obtain ⟨x0, x1, x2, fz⟩ := cells3 hb0
  obtain ⟨y0, y1, y2, fz1⟩ := cells3 hb1
  have hlt := block_lt hb0
  have hlt1 := block_lt hb1
  have hlast := hid ((((S2.set 0 (.int .i64 1)).set 1 (.string text)).set 2 (.slice none 0 0)).less ((List.sublist_cons_self _ _).trans (List.sublist_cons_self _ _)))
  clear hb0 hb1 S2
  go_wp2_with fail
  refine (hadd w1).out.mono ?_
  rintro e w2 ⟨rfl, rfl⟩
  clear hadd
  go_wp2_with fail
  refine bodyPost_ret (v := .tuple #[itemVal 1 text (.slice none 0 0), .int .i64 0, .int .i64 12]) (by simp [results, Tryz.results96, go_sem, itemVal, *] <;> rfl) rfl ?_
  exact ⟨rfl, hlast.out⟩

set_option maxRecDepth 100000 in
theorem iadd_yes {w0 w : World} {r : Hp} (hS : Step w0 [] w r) (hG : Glob w0) (text : ByteArray) (ht : text.size ≤ 1099511627776) (m : Int) (hn : wnum text = some m) (n : Int) (hn1 : -9223372036854775808 ≤ n ∧ n ≤ 9223372036854775807) (k : Int) (ho : wadd m n = some k) :
    Calls Tryz.prog 96 #[itemVal 1 text (.slice none 0 0), .int .i64 n] w (AddPost w0 r (itemVal 1 (wtext k) (.slice none 0 0)) k 0) := by
  have S1 := (hS.alloc (.cells #[.int .i64 1, .string text, .slice none 0 0] 62)).alloc (.cells #[.int .i64 0, .string ByteArray.empty, .slice none 0 0] 62)
  rw [World.size_alloc] at S1
  have hpar := hid (wparse_any S1 hG text ht)
  have e1 : wcode (wnum text) = 0 := by rw [hn]; rfl
  have e2 : (wnum text).getD 0 = m := by rw [hn]; rfl
  rw [e1, e2] at hpar
  have hadd : ∀ w', Hid _ := fun w' => hid (wadd_any m n w' (wnum_bounds hn) hn1)
  have e3 : wover (wadd m n) = 0 := by rw [ho]; rfl
  have e4 : (wadd m n).getD 0 = k := by rw [ho]; rfl
  rw [e3, e4] at hadd
  have hk : -9223372036854775808 ≤ k ∧ k ≤ 9223372036854775807 := by
    unfold wadd at ho
    split at ho
    · rename_i hh; simp only [Option.some.injEq] at ho; omega
    · exact absurd ho (by simp)
  obtain ⟨hk1, hk2⟩ := hk
  clear e3 e4 ho hn1
  clear hS S1 e1 e2 hn
  go_enter Tryz.func96, Tryz.ntmps96
  unfold itemVal
  go_wp2_with fail
  refine hpar.out.mono ?_
  rintro e w1 ⟨rfl, S2⟩
  clear hpar
  have hlt0 := block_lt S2.own.tail.head
  have htx := hid (wtext_any S2 hG k hk1 hk2)
  clear S2
  go_wp2_with fail
  refine (hadd w1).out.mono ?_
  rintro e w2 ⟨rfl, rfl⟩
  clear hadd
  go_wp2_with fail
  refine htx.out.mono ?_
  rintro e w3 ⟨rfl, S3⟩
  have hit := hid (itext_any S3 (wtext k))
  clear htx S3 hlt0
  go_wp2_with fail
  refine hit.out.mono ?_
  rintro e w4 ⟨rfl, S4⟩
  clear hit
  have hb1 := S4.own.head
  obtain ⟨y0, y1, y2, fz1⟩ := cells3 hb1
  have hlt1 := block_lt hb1
  have hlast := hid ((((S4.set 0 (.int .i64 1)).set 1 (.string (wtext k))).set 2 (.slice none 0 0)).less ((List.sublist_cons_self _ _).trans (List.sublist_cons_self _ _)))
  clear hb1 S4
  unfold itemVal
  go_wp2_with fail
  refine bodyPost_ret (v := .tuple #[itemVal 1 (wtext k) (.slice none 0 0), .int .i64 k, .int .i64 0]) (by simp [results, Tryz.results96, go_sem, itemVal, *] <;> rfl) rfl ?_
  exact ⟨rfl, hlast.out⟩

set_option maxRecDepth 100000 in
theorem iadd_new {w0 w : World} {r : Hp} (hS : Step w0 [] w r) (hG : Glob w0) (n : Int) (hn1 : -9223372036854775808 ≤ n ∧ n ≤ 9223372036854775807) :
    Calls Tryz.prog 96 #[itemVal 0 ByteArray.empty (.slice none 0 0), .int .i64 n] w (AddPost w0 r (itemVal 1 (wtext n) (.slice none 0 0)) n 0) := by
  have S1 := (hS.alloc (.cells #[.int .i64 0, .string ByteArray.empty, .slice none 0 0] 62)).alloc (.cells #[.int .i64 0, .string ByteArray.empty, .slice none 0 0] 62)
  have hadd : ∀ w', Hid _ := fun w' => hid (wadd_any 0 n w' (by omega) hn1)
  have ho : wadd 0 n = some n := by unfold wadd; rw [if_pos (by omega)]; simp
  have e3 : wover (wadd 0 n) = 0 := by rw [ho]; rfl
  have e4 : (wadd 0 n).getD 0 = n := by rw [ho]; rfl
  rw [e3, e4] at hadd
  have htx := hid (wtext_any S1 hG n hn1.1 hn1.2)
  clear hS S1 e3 e4 ho hn1
  go_enter Tryz.func96, Tryz.ntmps96
  unfold itemVal
  go_wp2_with fail
  refine (hadd _).out.mono ?_
  rintro e w2 ⟨rfl, rfl⟩
  clear hadd
  go_wp2_with fail
  refine htx.out.mono ?_
  rintro e w3 ⟨rfl, S3⟩
  have hit := hid (itext_any S3 (wtext n))
  clear htx S3
  go_wp2_with fail
  refine hit.out.mono ?_
  rintro e w4 ⟨rfl, S4⟩
  rw [World.size_alloc] at S4
  clear hit
  have hb1 := S4.own.head
  obtain ⟨y0, y1, y2, fz1⟩ := cells3 hb1
  have hlt1 := block_lt hb1
  have hlast := hid ((((S4.set 0 (.int .i64 1)).set 1 (.string (wtext n))).set 2 (.slice none 0 0)).less ((List.sublist_cons_self _ _).trans (List.sublist_cons_self _ _)))
  clear hb1 S4
  unfold itemVal
  go_wp2_with fail
  refine bodyPost_ret (v := .tuple #[itemVal 1 (wtext n) (.slice none 0 0), .int .i64 n, .int .i64 0]) (by simp [results, Tryz.results96, go_sem, itemVal, *] <;> rfl) rfl ?_
  exact ⟨rfl, hlast.out⟩

end Go.Proofs.YthfngplckbggpaaGreatDoor
