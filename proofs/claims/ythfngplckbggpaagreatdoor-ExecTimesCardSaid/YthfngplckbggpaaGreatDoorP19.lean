/-
  words.Upper.
  words.Find's closure; slices.IndexFunc at commands; words.Find.
  words.Find.
  words.Check (printed by gen_check.py); a slice of words, as it is read.
-/
import Derived.Test.YthfngplckbggpaaGreatDoorP18
import Derived.Deep.LoopGhost
import Derived.Deep.Cut
set_option linter.unusedVariables false
set_option linter.unusedSimpArgs false
namespace Go.Proofs.YthfngplckbggpaaGreatDoor
open Go Go.RowKit

/-- A great letter for a small one. -/
def upc (c : UInt8) : UInt8 := if 97 ≤ c.toNat ∧ c.toNat ≤ 122 then UInt8.ofNat (c.toNat - 32) else c
def upper (s : ByteArray) : ByteArray := ⟨(s.data.toList.map upc).toArray⟩

theorem upper_size (s : ByteArray) : (upper s).size = s.size := by
  show (s.data.toList.map upc).toArray.size = s.data.size
  rw [List.size_toArray, List.length_map, Array.length_toList]

/-- The bytes behind n rounds. -/
def upTo (l : List UInt8) (n : Nat) : List UInt8 := (l.take n).map upc ++ l.drop n
def upCells (l : List UInt8) (z : List Value) : Array Value := ((l.map fun b : UInt8 => Value.int .u8 (b.toNat : Int)) ++ z).toArray

theorem upTo_zero (l : List UInt8) : upTo l 0 = l := by simp [upTo]
theorem upTo_all (l : List UInt8) : upTo l l.length = l.map upc := by simp [upTo]
theorem upTo_len (l : List UInt8) (n : Nat) : (upTo l n).length = l.length := by simp [upTo]; omega
theorem upTo_at {l : List UInt8} {n : Nat} {c : UInt8} (h : l[n]? = some c) : (upTo l n)[n]? = some c := by
  have hn := (List.getElem?_eq_some_iff.1 h).1
  rw [upTo, List.getElem?_append_right (by simp; omega)]
  simp [Nat.min_eq_left (Nat.le_of_lt hn), h]
theorem upTo_succ {l : List UInt8} {n : Nat} {c : UInt8} (h : l[n]? = some c) : upTo l (n + 1) = (upTo l n).set n (upc c) := by
  have hn := (List.getElem?_eq_some_iff.1 h).1
  have hd : l.drop n = c :: l.drop (n + 1) := by
    rw [List.drop_eq_getElem_cons hn]
    have := (List.getElem?_eq_some_iff.1 h).2
    rw [this]
  unfold upTo
  rw [hd, List.set_append_right _ _ (by simp; omega)]
  simp only [List.length_map, List.length_take, Nat.min_eq_left (Nat.le_of_lt hn), Nat.sub_self, List.set_cons_zero]
  rw [List.take_add_one, h]
  simp
theorem upTo_same {l : List UInt8} {n : Nat} {c : UInt8} (h : l[n]? = some c) (hc : upc c = c) : upTo l (n + 1) = upTo l n := by
  rw [upTo_succ h, hc]
  have hg := upTo_at h
  apply List.ext_getElem?
  intro i
  rw [List.getElem?_set]
  split
  · rename_i e; subst e; rw [hg]; have := (List.getElem?_eq_some_iff.1 hg).1; simp [this]
  · rfl

theorem upCells_at {l : List UInt8} {z : List Value} {n : Nat} {c : UInt8} (h : l[n]? = some c) : (upCells l z)[n]? = some (.int .u8 (c.toNat : Int)) := by
  have hn := (List.getElem?_eq_some_iff.1 h).1
  rw [upCells, List.getElem?_toArray, List.getElem?_append_left (by simpa using hn), List.getElem?_map, h]
  rfl
theorem upCells_set (l : List UInt8) (z : List Value) (n : Nat) (c : UInt8) (hn : n < l.length) : (upCells l z).setIfInBounds n (.int .u8 (c.toNat : Int)) = upCells (l.set n c) z := by
  unfold upCells
  rw [List.setIfInBounds_toArray, List.set_append_left _ _ (by simpa using hn), List.map_set]
theorem bytesRow_up (s : ByteArray) (cap : Nat) : bytesRow s cap = upCells s.data.toList (List.replicate (cap - s.size) (.int .u8 0)) := by
  unfold bytesRow upCells
  apply Array.toList_inj.1
  simp

theorem upCells_size (l : List UInt8) (z : List Value) : (upCells l z).size = l.length + z.length := by simp [upCells]

/-- What the round reads. -/
structure UpAt (wr : World) (g n : Nat) (c : UInt8) : Prop where
  at_ : wr.cell? ⟨g, n, none⟩ = some (.int .u8 (c.toNat : Int))
  fz : wr.frozen? ⟨g, n, none⟩ = false
theorem upAt {w0 wr : World} {r : Hp} {l : List UInt8} {z : List Value} {g n m : Nat} {c : UInt8} (hS : Step w0 [] wr ((g, .cells (upCells (upTo l n) z) 5 (m, m + 1)) :: r)) (hm : l.length ≤ m) (h : l[n]? = some c) : UpAt wr g n c := by
  have hh := hS.own.head
  have hn := (List.getElem?_eq_some_iff.1 h).1
  refine ⟨by rw [cells_get hh, upCells_at (upTo_at h)], ?_⟩
  simp [World.frozen?, hh]; omega

set_option maxRecDepth 100000 in
set_option maxHeartbeats 1000000 in
theorem upper_any {w0 w : World} {r : Hp} (hS : Step w0 [] w r) (s : ByteArray) (hs : s.size ≤ 1099511627776) :
    Calls Tryz.prog 77 #[.string s] w (AnsPost w0 r (.string (upper s))) := by
  have hcv := run_bytes_of_string (P := Tryz.prog) w 9 132 5 s Tryz.underlying9 Tryz.underlying132 Tryz.underlying5
  rw [bytesRow_up, upCells_size] at hcv
  generalize grownCap w s.size 0 5 = cap at hcv
  have hlen : s.data.toList.length = s.size := Array.length_toList
  generalize hz : (List.replicate (cap - s.size) (Value.int .u8 0)) = z at hcv
  generalize hm : s.data.toList.length + z.length = m at hcv
  have S1 := hS.drew.alloc (.cells (upCells s.data.toList z) 5 (m, m + 1))
  generalize hw1 : w.drew.alloc (.cells (upCells s.data.toList z) 5 (m, m + 1)) = w1 at hcv S1
  rw [show w.drew.heap.size = w.heap.size from rfl] at S1
  generalize w.heap.size = g at hcv S1
  rw [← upTo_zero s.data.toList] at S1
  replace S1 := hid S1
  replace hm : Hid (s.data.toList.length ≤ m) := hid (by omega)
  replace hlen := hid hlen
  have hup : Hid (upper s = ⟨(upTo s.data.toList s.size).toArray⟩) := hid (by rw [← hlen.out, upTo_all]; rfl)
  clear hz hw1 hS
  go_enter Tryz.func77, Tryz.ntmps77
  go_wp2_with fail
  clear hcv
  go_loopw [4, 5, 10] (fun i c k wr => ∃ n : Nat, k = .int .i64 n ∧ n ≤ s.size ∧ Hid (Step w0 [] wr ((g, .cells (upCells (upTo s.data.toList n) z) 5 (m, m + 1)) :: r))) (fun i c k wr => (s.size - intOf k).toNat)
  case atStart => exact ⟨0, rfl, Nat.zero_le _, S1⟩
  case round =>
    obtain ⟨n, rfl, hn, S2⟩ := hrel
    by_cases hlt : n < s.size
    · obtain ⟨c, hc⟩ : ∃ c, s.data.toList[n]? = some c := ⟨s.data.toList[n]'(by rw [hlen.out]; exact hlt), List.getElem?_eq_getElem _⟩
      obtain ⟨hat, fz⟩ := upAt S2.out hm.out hc
      replace hc := hid hc
      by_cases h : 97 ≤ c.toNat ∧ c.toNat ≤ 122
      · obtain ⟨h1, h2⟩ := h
        have hset := (S2.out.set n (.int .u8 ((upc c).toNat : Int)))
        rw [upCells_set _ _ _ _ (by rw [upTo_len, hlen.out]; exact hlt), ← upTo_succ hc.out] at hset
        have e : ((upc c).toNat : Int) = (c.toNat : Int) - 97 + 65 := by
          unfold upc; rw [if_pos ⟨h1, h2⟩]
          rw [UInt8.toNat_ofNat']; omega
        rw [e] at hset
        replace hset := hid hset
        clear e S2
        go_wp2_with fail
        go_roundw
        case rel => exact ⟨n + 1, rfl, hlt, hset⟩
        case measure => simp [intOf]; omega
      · have hsame := S2.out
        rw [← upTo_same hc.out (by unfold upc; rw [if_neg h])] at hsame
        replace hsame := hid hsame
        clear S2
        by_cases h1 : 97 ≤ c.toNat
        · have h2 : ¬ c.toNat ≤ 122 := fun e => h ⟨h1, e⟩
          clear h
          go_wp2_with fail
          go_roundw
          case rel => exact ⟨n + 1, rfl, hlt, hsame⟩
          case measure => simp [intOf]; omega
        · clear h
          go_wp2_with fail
          go_roundw
          case rel => exact ⟨n + 1, rfl, hlt, hsame⟩
          case measure => simp [intOf]; omega
    · obtain rfl : n = s.size := by omega
      have hback := run_convert_bytes_back (P := Tryz.prog) wr 132 9 5 ⟨g, 0, none⟩ cap (upTo s.data.toList s.size) Tryz.underlying132 Tryz.underlying5 Tryz.underlying9 (fun j hj => by
        have hh := S2.out.own.head
        rw [addr_add, Nat.zero_add, cells_get hh, upCells_at (List.getElem?_eq_getElem hj)])
      rw [upTo_len, hlen.out, ← hup.out] at hback
      go_wp2_with fail
      go_ret
      exact ⟨rfl, S2.out.less (List.sublist_cons_self _ _)⟩

end Go.Proofs.YthfngplckbggpaaGreatDoor

namespace Go.Proofs.YthfngplckbggpaaGreatDoor
open Go Go.RowKit

theorem spCells_at : ∀ (l : List Sp) (i : Nat) (s : Sp), l[i]? = some s → ∀ j v, s.cells[j]? = some v → (spCells l)[i * 7 + j]? = some v
  | [], i, s, h, _, _, _ => by simp at h
  | t :: l, 0, s, h, j, v, hj => by
    simp at h; subst h
    have hlt : j < t.cells.length := (List.getElem?_eq_some_iff.1 hj).1
    show (t.cells ++ spCells l)[0 * 7 + j]? = some v
    rw [List.getElem?_append_left (by omega)]
    simpa using hj
  | t :: l, i + 1, s, h, j, v, hj => by
    have := spCells_at l i s (by simpa using h) j v hj
    show (t.cells ++ spCells l)[(i + 1) * 7 + j]? = some v
    have ht : t.cells.length = 7 := rfl
    rw [List.getElem?_append_right (by omega), ht, show (i + 1) * 7 + j - 7 = i * 7 + j by omega]
    exact this

structure SpAt (w : World) (g i : Nat) (s : Sp) : Prop where
  c0 : w.cell? ⟨g, i * 7, none⟩ = some (.string s.name)
  c1 : w.cell? ⟨g, i * 7 + 1, none⟩ = some (.int .i64 s.kind)
  c2 : w.cell? ⟨g, i * 7 + 2, none⟩ = some (.int .i64 s.least)
  c3 : w.cell? ⟨g, i * 7 + 3, none⟩ = some (.int .i64 s.most)
  c4 : w.cell? ⟨g, i * 7 + 4, none⟩ = some (.int .i64 s.first)
  c5 : w.cell? ⟨g, i * 7 + 5, none⟩ = some (.int .i64 s.last)
  c6 : w.cell? ⟨g, i * 7 + 6, none⟩ = some (.int .i64 s.step)
theorem spAt {w : World} {g i : Nat} {s : Sp} {l : List Sp} {t : TypeId} (h : w.heap[g]? = some (.cells (spCells l).toArray t (0, 0))) (hs : l[i]? = some s) : SpAt w g i s := by
  have k : ∀ j v, s.cells[j]? = some v → w.cell? ⟨g, i * 7 + j, none⟩ = some v := fun j v hj => by
    rw [cells_get h, List.getElem?_toArray]; exact spCells_at l i s hs j v hj
  exact ⟨k 0 _ rfl, k 1 _ rfl, k 2 _ rfl, k 3 _ rfl, k 4 _ rfl, k 5 _ rfl, k 6 _ rfl⟩

set_option maxRecDepth 100000 in
theorem named_any {w0 w : World} {r : Hp} {cb : Nat} {name : ByteArray} (hS : Step w0 [] w ((cb, .cells #[.string name] 9 (0, 0)) :: r)) (s : Sp) :
    Calls Tryz.prog 79 #[s.val, ptr cb] w (AnsPost w0 ((cb, .cells #[.string name] 9 (0, 0)) :: r) (.bool (decide (s.name = name)))) := by
  have S1 := hid ((hS.alloc (.cells #[.string s.name, .int .i64 s.kind, .int .i64 s.least, .int .i64 s.most, .int .i64 s.first, .int .i64 s.last, .int .i64 s.step] 48)).less (List.sublist_cons_self _ _))
  have c0 : w.cell? ⟨cb, 0, none⟩ = some (.string name) := cells_get hS.own.head 0
  have hcb := block_lt hS.own.head
  have e : Hid ((s.name.toList == name.toList) = decide (s.name = name)) := hid (by
    by_cases h : s.name = name
    · rw [decide_eq_true h]; exact str_is h
    · rw [decide_eq_false h]; exact str_isnt h)
  clear hS
  go_enter Tryz.func79, Tryz.ntmps79
  unfold Sp.val specVal
  go_wp2_with fail
  go_ret
  rw [e.out]
  exact ⟨rfl, S1.out⟩

/-- Where a command stands; -1: nowhere. -/
def idxOf (l : List Sp) (name : ByteArray) : Int := match l.findIdx? (fun s => decide (s.name = name)) with
  | some i => (i : Int)
  | none => -1

def findFn (cb : Nat) : Value := .func (.func 79) #[] #[ptr cb]

theorem idx_hit {l : List Sp} {name : ByteArray} {k : Nat} {s : Sp} (h : ∀ i < k, ∀ t, l[i]? = some t → t.name ≠ name) (hs : l[k]? = some s) (he : s.name = name) : idxOf l name = k := by
  unfold idxOf
  have : l.findIdx? (fun s => decide (s.name = name)) = some k := by
    rw [List.findIdx?_eq_some_iff_getElem]
    obtain ⟨hk, rfl⟩ := List.getElem?_eq_some_iff.1 hs
    exact ⟨hk, by simpa using he, fun j hj => by simpa using h j hj _ (List.getElem?_eq_getElem (by omega))⟩
  rw [this]
theorem idx_miss {l : List Sp} {name : ByteArray} (h : ∀ i < l.length, ∀ t, l[i]? = some t → t.name ≠ name) : idxOf l name = -1 := by
  unfold idxOf
  have : l.findIdx? (fun s => decide (s.name = name)) = none := by
    rw [List.findIdx?_eq_none_iff]
    intro x hx
    obtain ⟨i, hi, rfl⟩ := List.mem_iff_getElem.1 hx
    simpa using h i hi _ (List.getElem?_eq_getElem hi)
  rw [this]

set_option maxRecDepth 100000 in
set_option maxHeartbeats 1000000 in
theorem index_any {w0 w : World} {r : Hp} {cb g : Nat} {name : ByteArray} {l : List Sp} (hl : l.length ≤ 1000) (hS : Step w0 [] w ((cb, .cells #[.string name] 9 (0, 0)) :: (g, .cells (spCells l).toArray 48 (0, 0)) :: r)) :
    Calls Tryz.prog 78 #[.slice (some ⟨g, 0, none⟩) l.length l.length, findFn cb] w
      (AnsPost w0 ((cb, .cells #[.string name] 9 (0, 0)) :: (g, .cells (spCells l).toArray 48 (0, 0)) :: r) (.int .i64 (idxOf l name))) := by
  replace hS := hid hS
  go_enter Tryz.func78, Tryz.ntmps78
  unfold findFn
  go_wp2_with fail
  go_loopw [5, 8] (fun i k wr => ∃ n : Nat, k = .int .i64 n ∧ n ≤ l.length ∧ Hid (∀ i < n, ∀ t, l[i]? = some t → t.name ≠ name) ∧ Hid (Step w0 [] wr ((cb, .cells #[.string name] 9 (0, 0)) :: (g, .cells (spCells l).toArray 48 (0, 0)) :: r))) (fun i k wr => (l.length - intOf k).toNat)
  case atStart => exact ⟨0, rfl, Nat.zero_le _, hid (fun i hi => by omega), hS⟩
  case round =>
    obtain ⟨n, rfl, hn, hno, S2⟩ := hrel
    clear hS
    by_cases hlt : n < l.length
    · obtain ⟨s, hs⟩ : ∃ s, l[n]? = some s := ⟨l[n]'hlt, List.getElem?_eq_getElem _⟩
      obtain ⟨c0, c1, c2, c3, c4, c5, c6⟩ := spAt S2.out.own.tail.head hs
      have hcall := hid (named_any S2.out s)
      replace hs := hid hs
      by_cases he : s.name = name
      · have hdone := hid (idx_hit hno.out hs.out he)
        rw [decide_eq_true he] at hcall
        replace he := hid he
        unfold Sp.val specVal at hcall
        go_wp2_with fail
        refine hcall.out.mono ?_
        rintro e w2 ⟨rfl, S3⟩
        replace S3 := hid S3
        clear hcall c0 c1 c2 c3 c4 c5 c6
        go_wp2_with fail
        go_ret
        rw [hdone.out]
        exact ⟨rfl, S3.out⟩
      · have hno2 : Hid (∀ i < n + 1, ∀ t, l[i]? = some t → t.name ≠ name) := hid (fun i hi t ht => by
          by_cases e : i = n
          · subst e; rw [hs.out] at ht; injection ht with ht; subst ht; exact he
          · exact hno.out i (by omega) t ht)
        rw [decide_eq_false he] at hcall
        replace he := hid he
        unfold Sp.val specVal at hcall
        go_wp2_with fail
        refine hcall.out.mono ?_
        rintro e w2 ⟨rfl, S3⟩
        replace S3 := hid S3
        clear hcall c0 c1 c2 c3 c4 c5 c6
        go_wp2_with fail
        go_roundw
        case rel => exact ⟨n + 1, rfl, hlt, hno2, S3⟩
        case measure => simp [intOf]; omega
    · obtain rfl : n = l.length := by omega
      have hdone := hid (idx_miss hno.out)
      go_wp2_with fail
      go_ret
      rw [hdone.out]
      exact ⟨rfl, S2.out⟩

end Go.Proofs.YthfngplckbggpaaGreatDoor

namespace Go.Proofs.YthfngplckbggpaaGreatDoor
open Go Go.RowKit

def zeroSp : Sp := ⟨ByteArray.empty, 0, 0, 0, 0, 0, 0⟩
/-- The command of a word. -/
def wfind (word : ByteArray) : Option Sp := specTab.find? (fun s => decide (s.name = upper word))

theorem idx_find (l : List Sp) (name : ByteArray) : (∃ i s, idxOf l name = ((i : Nat) : Int) ∧ l[i]? = some s ∧ i < l.length ∧ l.find? (fun s => decide (s.name = name)) = some s) ∨ (idxOf l name = -1 ∧ l.find? (fun s => decide (s.name = name)) = none) := by
  unfold idxOf
  cases h : l.findIdx? (fun s => decide (s.name = name)) with
  | none =>
    right
    refine ⟨rfl, ?_⟩
    rw [List.findIdx?_eq_none_iff] at h
    rw [List.find?_eq_none]
    intro x hx; simpa using h x hx
  | some i =>
    left
    obtain ⟨hi, h1, h2⟩ := List.findIdx?_eq_some_iff_getElem.1 h
    refine ⟨i, l[i], rfl, List.getElem?_eq_getElem hi, hi, ?_⟩
    rw [List.find?_eq_some_iff_getElem]
    exact ⟨h1, i, hi, rfl, fun j hj => by have := h2 j hj; simpa using this⟩

def SpPost (w0 : World) (r : Hp) (o : Option Sp) (e : Ending) (w' : World) : Prop := e = .returned (.tuple #[(o.getD zeroSp).val, .bool o.isSome]) ∧ Step w0 [] w' r

structure Cells7 (w : World) (b : Nat) : Prop where
  c0 : ∃ x, w.cell? ⟨b, 0, none⟩ = some x
  c1 : ∃ x, w.cell? ⟨b, 1, none⟩ = some x
  c2 : ∃ x, w.cell? ⟨b, 2, none⟩ = some x
  c3 : ∃ x, w.cell? ⟨b, 3, none⟩ = some x
  c4 : ∃ x, w.cell? ⟨b, 4, none⟩ = some x
  c5 : ∃ x, w.cell? ⟨b, 5, none⟩ = some x
  c6 : ∃ x, w.cell? ⟨b, 6, none⟩ = some x
  fz : ∀ j, w.frozen? ⟨b, j, none⟩ = false
  lt : b < w.heap.size
theorem cells7 {w : World} {b : Nat} {o0 o1 o2 o3 o4 o5 o6 : Value} {t : TypeId} (h : w.heap[b]? = some (.cells #[o0, o1, o2, o3, o4, o5, o6] t (0, 0))) : Cells7 w b :=
  ⟨⟨_, cells_get h 0⟩, ⟨_, cells_get h 1⟩, ⟨_, cells_get h 2⟩, ⟨_, cells_get h 3⟩, ⟨_, cells_get h 4⟩, ⟨_, cells_get h 5⟩, ⟨_, cells_get h 6⟩, fun j => cells_free h j, block_lt h⟩

theorem set7 (o0 o1 o2 o3 o4 o5 o6 v0 v1 v2 v3 v4 v5 v6 : Value) : (((((((#[o0, o1, o2, o3, o4, o5, o6] : Array Value).setIfInBounds 0 v0).setIfInBounds 1 v1).setIfInBounds 2 v2).setIfInBounds 3 v3).setIfInBounds 4 v4).setIfInBounds 5 v5).setIfInBounds 6 v6 = #[v0, v1, v2, v3, v4, v5, v6] := by kernel_rfl
/-- A command is laid into a block of its own. -/
theorem Step.setSp {w0 w : World} {l r : Hp} {b : Nat} {o0 o1 o2 o3 o4 o5 o6 : Value} {t : TypeId} (h : Step w0 l w ((b, .cells #[o0, o1, o2, o3, o4, o5, o6] t (0, 0)) :: r)) (s : Sp) :
    Step w0 l (((((((w.setCell ⟨b, 0, none⟩ (.string s.name)).setCell ⟨b, 1, none⟩ (.int .i64 s.kind)).setCell ⟨b, 2, none⟩ (.int .i64 s.least)).setCell ⟨b, 3, none⟩ (.int .i64 s.most)).setCell ⟨b, 4, none⟩ (.int .i64 s.first)).setCell ⟨b, 5, none⟩ (.int .i64 s.last)).setCell ⟨b, 6, none⟩ (.int .i64 s.step))
      ((b, .cells #[.string s.name, .int .i64 s.kind, .int .i64 s.least, .int .i64 s.most, .int .i64 s.first, .int .i64 s.last, .int .i64 s.step] t (0, 0)) :: r) := by
  have k := ((((((h.set 0 (.string s.name)).set 1 (.int .i64 s.kind)).set 2 (.int .i64 s.least)).set 3 (.int .i64 s.most)).set 4 (.int .i64 s.first)).set 5 (.int .i64 s.last)).set 6 (.int .i64 s.step)
  rw [set7] at k
  exact k

set_option maxRecDepth 100000 in
set_option maxHeartbeats 1000000 in
theorem wfind_any {w0 w : World} {r : Hp} (hS : Step w0 [] w r) (word : ByteArray) (hw : word.size ≤ 1099511627776) :
    Calls Tryz.prog 39 #[.string word] w (SpPost w0 r (wfind word)) := by
  have S1 := hS.alloc (.cells #[.string ByteArray.empty, .int .i64 0, .int .i64 0, .int .i64 0, .int .i64 0, .int .i64 0, .int .i64 0] 48)
  have hall := hid (all_any S1)
  have hlen : specTab.length = 39 := rfl
  replace hlen := hid hlen
  clear hS S1
  go_enter Tryz.func39, Tryz.ntmps39
  go_wp2_with fail
  generalize w.heap.size = b at hall ⊢
  refine hall.out.mono ?_
  rintro e w1 ⟨g, rfl, S2⟩
  have hup := hid (upper_any S2 word hw)
  have hlt := block_lt S2.own.tail.head
  clear hall S2
  go_wp2_with fail
  refine hup.out.mono ?_
  rintro e w2 ⟨rfl, S3⟩
  have S4 := S3.alloc (.cells #[.string (upper word)] 9)
  have hidx := hid (index_any (l := specTab) (name := upper word) (by rw [hlen.out]; omega) S4)
  rw [hlen.out] at hidx
  unfold findFn at hidx
  clear hup S3 S4
  go_wp2_with fail
  refine hidx.out.mono ?_
  rintro e w3 ⟨rfl, S5⟩
  clear hidx
  obtain ⟨⟨x0, hx0⟩, ⟨x1, hx1⟩, ⟨x2, hx2⟩, ⟨x3, hx3⟩, ⟨x4, hx4⟩, ⟨x5, hx5⟩, ⟨x6, hx6⟩, fz, hb⟩ := cells7 S5.own.tail.tail.head
  rcases idx_find specTab (upper word) with ⟨i, s, hi, hs, hlt2, hf⟩ | ⟨hi, hf⟩
  · obtain ⟨c0, c1, c2, c3, c4, c5, c6⟩ := spAt S5.own.tail.head hs
    have hgb : g ≠ b := by
      have := S5.own.tail.nd
      rw [keys_cons, List.nodup_cons] at this
      exact fun e => this.1 (by subst e; simp)
    have S6 := hid (((S5.permR (l2 := (b, .cells #[.string ByteArray.empty, .int .i64 0, .int .i64 0, .int .i64 0, .int .i64 0, .int .i64 0, .int .i64 0] 48 (0, 0)) :: ((w2.heap.size, .cells #[.string (upper word)] 9 (0, 0)) :: (g, .cells (spCells specTab).toArray 48 (0, 0)) :: r)) (perm_by fun f => by
      simp only [List.map_cons, List.sum_cons]; omega)).setSp s).less ((List.sublist_cons_self _ _).trans ((List.sublist_cons_self _ _).trans (List.sublist_cons_self _ _))))
    have hdone : Hid (wfind word = some s) := hid hf
    have hgb2 : b ≠ g := fun e => hgb e.symm
    rw [hi]
    rw [hlen.out] at hlt2
    clear hs hf hi S5
    go_wp2_with fail
    refine bodyPost_ret (v := .tuple #[s.val, .bool true]) (by simp [results, Tryz.results39, go_sem, Sp.val, specVal, *] <;> rfl) rfl ?_
    rw [hdone.out]
    exact ⟨rfl, S6.out⟩
  · have S6 := hid (((S5.permR (l2 := (b, .cells #[.string ByteArray.empty, .int .i64 0, .int .i64 0, .int .i64 0, .int .i64 0, .int .i64 0, .int .i64 0] 48 (0, 0)) :: ((w2.heap.size, .cells #[.string (upper word)] 9 (0, 0)) :: (g, .cells (spCells specTab).toArray 48 (0, 0)) :: r)) (perm_by fun f => by
      simp only [List.map_cons, List.sum_cons]; omega)).setSp zeroSp).less ((List.sublist_cons_self _ _).trans ((List.sublist_cons_self _ _).trans (List.sublist_cons_self _ _))))
    have hdone : Hid (wfind word = none) := hid hf
    rw [hi]
    clear hf hi S5
    unfold zeroSp at S6
    go_wp2_with fail
    refine bodyPost_ret (v := .tuple #[zeroSp.val, .bool false]) (by simp [results, Tryz.results39, go_sem, Sp.val, specVal, zeroSp, *] <;> rfl) rfl ?_
    rw [hdone.out]
    exact ⟨rfl, S6.out⟩

end Go.Proofs.YthfngplckbggpaaGreatDoor

namespace Go.Proofs.YthfngplckbggpaaGreatDoor
open Go Go.RowKit

def noCommand : ByteArray := ⟨#[69, 82, 82, 32, 110, 111, 32, 99, 111, 109, 109, 97, 110, 100]⟩
def unknownCommand : ByteArray := ⟨#[69, 82, 82, 32, 117, 110, 107, 110, 111, 119, 110, 32, 99, 111, 109, 109, 97, 110, 100]⟩
def wrongNumber : ByteArray := ⟨#[69, 82, 82, 32, 119, 114, 111, 110, 103, 32, 110, 117, 109, 98, 101, 114, 32, 111, 102, 32, 97, 114, 103, 117, 109, 101, 110, 116, 115, 32, 102, 111, 114, 32]⟩

/-- What is wrong with words, and their command. -/
def wcheck (ws : List ByteArray) : Sp × ByteArray :=
  match ws with
  | [] => (zeroSp, noCommand)
  | c :: _ => match wfind c with
    | none => (zeroSp, unknownCommand)
    | some s => if (ws.length : Int) < s.least ∨ s.most < (ws.length : Int) ∨ isOdd s.name ws.length = true then (zeroSp, wrongNumber ++ ⟨(Lib.toLowerA s.name.data.toList).toArray⟩) else (s, ByteArray.empty)

/-- Words that whoever owns r sees at off in block g. -/
structure Args (w0 : World) (r : Hp) (g off : Nat) (ws : List ByteArray) : Prop where
  at_ : ∀ (w' : World) (x : Hp), Step w0 [] w' (x ++ r) → ∀ (i : Nat) (s : ByteArray), ws[i]? = some s → w'.cell? ⟨g, off + i, none⟩ = some (.string s)
  small : ∀ s ∈ ws, s.size ≤ 1099511627776
  few : ws.length ≤ 1099511627776

theorem Args.get {w0 w' : World} {r l : Hp} {g off : Nat} {ws : List ByteArray} (h : Args w0 r g off ws) (hS : Step w0 [] w' l) (x : Hp) (p : l.Perm (x ++ r)) {i : Nat} {s : ByteArray} (hs : ws[i]? = some s) : w'.cell? ⟨g, off + i, none⟩ = some (.string s) :=
  h.at_ w' x (hS.permR p) i s hs

/-- Words in a block that the caller has. -/
theorem Args.own {w0 : World} {r : Hp} {g : Nat} {ws : List ByteArray} {t : TypeId} (hm : (g, .cells (ws.map Value.string).toArray t (0, 0)) ∈ r) (hs : ∀ s ∈ ws, s.size ≤ 1099511627776) (hf : ws.length ≤ 1099511627776) : Args w0 r g 0 ws where
  at_ := fun w' x hS i s hi => by
    have hh : w'.heap[g]? = some (.cells (ws.map Value.string).toArray t (0, 0)) := hS.own.at_ (g, .cells (ws.map Value.string).toArray t (0, 0)) (List.mem_append_right _ hm)
    rw [Nat.zero_add, cells_get hh, List.getElem?_toArray, List.getElem?_map, hi]; rfl
  small := hs
  few := hf
theorem Args.drop {w0 : World} {r : Hp} {g off : Nat} {ws : List ByteArray} (h : Args w0 r g off ws) (n : Nat) : Args w0 r g (off + n) (ws.drop n) where
  at_ := fun w' x hS i s hi => by
    rw [List.getElem?_drop] at hi
    rw [Nat.add_assoc]; exact h.at_ w' x hS (n + i) s hi
  small := fun s hs => h.small s (List.mem_of_mem_drop hs)
  few := by have := h.few; simp; omega
theorem Args.more {w0 : World} {r x : Hp} {g off : Nat} {ws : List ByteArray} (h : Args w0 r g off ws) : Args w0 (x ++ r) g off ws where
  at_ := fun w' y hS i s hi => h.at_ w' (y ++ x) (by rw [List.append_assoc]; exact hS) i s hi
  small := h.small
  few := h.few

def CheckPost (w0 : World) (r : Hp) (p : Sp × ByteArray) (e : Ending) (w' : World) : Prop := e = .returned (.tuple #[p.1.val, .string p.2]) ∧ Step w0 [] w' r

theorem specTab_names : ∀ s ∈ specTab, s.name.size ≤ 20 ∧ ∀ b ∈ s.name.data.toList, b.toNat < 128 := by decide
theorem wfind_mem {word : ByteArray} {s : Sp} (h : wfind word = some s) : s ∈ specTab ∧ s.name = upper word := by
  unfold wfind at h
  exact ⟨List.mem_of_find?_eq_some h, by simpa using List.find?_some h⟩

set_option maxRecDepth 100000 in
theorem check_nil {w0 w : World} {r : Hp} (hS : Step w0 [] w r) (a : Option Addr) (c : Nat) :
    Calls Tryz.prog 26 #[.slice a 0 c] w (CheckPost w0 r (wcheck [])) := by
  have S1 := hid ((hS.alloc (.cells #[.string ByteArray.empty, .int .i64 0, .int .i64 0, .int .i64 0, .int .i64 0, .int .i64 0, .int .i64 0] 48)).less (List.sublist_cons_self _ _))
  clear hS
  go_enter Tryz.func26, Tryz.ntmps26
  go_wp2_with fail
  refine bodyPost_ret (v := .tuple #[zeroSp.val, .string noCommand]) (by simp [results, Tryz.results26, go_sem, Sp.val, specVal, zeroSp, noCommand, *] <;> rfl) rfl ?_
  exact ⟨rfl, S1.out⟩


set_option maxRecDepth 100000 in
set_option maxHeartbeats 2000000 in
theorem check_some {w0 w : World} {r : Hp} (hS : Step w0 [] w r) {g off : Nat} {c : ByteArray} {ws : List ByteArray} (hA : Args w0 r g off (c :: ws)) (cap : Nat) :
    Calls Tryz.prog 26 #[.slice (some ⟨g, off, none⟩) (c :: ws).length cap] w (CheckPost w0 r (wcheck (c :: ws))) := by
  have S1 := hS.alloc (.cells #[.string ByteArray.empty, .int .i64 0, .int .i64 0, .int .i64 0, .int .i64 0, .int .i64 0, .int .i64 0] 48)
  have hn : (0 : Int) < (((c :: ws).length : Nat) : Int) := by simp only [List.length_cons]; omega
  have hcell : w.cell? ⟨g, off, none⟩ = some (.string c) := hA.at_ w [] hS 0 c rfl
  have hlt : g < w.heap.size := by
    have := hcell
    unfold World.cell? at this
    cases hh : w.heap[g]? with
    | none => rw [hh] at this; cases this
    | some o => exact block_lt hh
  have hfew := hA.few
  have hfind := hid (wfind_any S1 c (hA.small c (by simp)))
  have hchk : Hid (wcheck (c :: ws) = _) := hid (show wcheck (c :: ws) = (match wfind c with
    | none => (zeroSp, unknownCommand)
    | some s => if (((c :: ws).length : Nat) : Int) < s.least ∨ s.most < (((c :: ws).length : Nat) : Int) ∨ isOdd s.name ((c :: ws).length : Nat) = true then (zeroSp, wrongNumber ++ ⟨(Lib.toLowerA s.name.data.toList).toArray⟩) else (s, ByteArray.empty)) from rfl)
  have hc0 := hS
  generalize hn2 : (c :: ws).length = n at hn hfew hchk ⊢
  generalize wcheck (c :: ws) = res at hchk ⊢
  have hnz : (((n : Nat) : Int) == 0) = false := by simp; omega
  clear hn2 hS hc0 hA
  cases hf : wfind c with
  | none =>
    rw [hf] at hfind hchk
    have hres := hid hchk.out
    simp only at hres
    clear S1 hf hchk
    unfold SpPost at hfind
    simp only [Option.getD_none, Option.isSome_none] at hfind
    unfold Sp.val specVal zeroSp at hfind
    go_enter Tryz.func26, Tryz.ntmps26
    go_wp2_with fail
    refine hfind.out.mono ?_
    rintro e w1 ⟨rfl, S2⟩
    clear hfind hcell
    go_upto_region 4 with fail
    have S3 := (S2.alloc (.cells #[.string ByteArray.empty, .int .i64 0, .int .i64 0, .int .i64 0, .int .i64 0, .int .i64 0, .int .i64 0] 48)).permR (List.Perm.swap _ _ _)
    generalize w1.alloc (.cells #[.string ByteArray.empty, .int .i64 0, .int .i64 0, .int .i64 0, .int .i64 0, .int .i64 0, .int .i64 0] 48) = w2 at S3 ⊢
    generalize w1.heap.size = b1 at S3 ⊢
    generalize w.heap.size = b at S2 S3 ⊢
    obtain ⟨⟨x0, hx0⟩, ⟨x1, hx1⟩, ⟨x2, hx2⟩, ⟨x3, hx3⟩, ⟨x4, hx4⟩, ⟨x5, hx5⟩, ⟨x6, hx6⟩, fz, hb⟩ := cells7 S3.own.head
    replace S3 := hid ((S3.setSp zeroSp).less ((List.sublist_cons_self _ _).trans (List.sublist_cons_self _ _)))
    unfold zeroSp at S3
    clear S2
    go_wp2_with fail
    refine bodyPost_ret (v := .tuple #[zeroSp.val, .string unknownCommand]) (by simp [results, Tryz.results26, go_sem, Sp.val, specVal, zeroSp, unknownCommand, *] <;> rfl) rfl ?_
    rw [hres.out]
    exact ⟨rfl, S3.out⟩
  | some s =>
    rw [hf] at hfind hchk
    obtain ⟨hmem, hnm⟩ := wfind_mem hf
    obtain ⟨hsz, hasc⟩ := specTab_names s hmem
    have hlow := fun w' => hid (Tryz.strings_ToLower_ascii s.name w' (by omega) (fun j b hb => hasc b (List.mem_of_getElem? hb)))
    simp only at hchk
    clear S1 hf hasc hmem hnm
    unfold SpPost at hfind
    simp only [Option.getD_some, Option.isSome_some] at hfind
    unfold Sp.val specVal at hfind
    obtain ⟨name, kind, least, most, first, last, step⟩ := s
    simp only at hfind hchk hlow hsz
    have hls : (⟨(Lib.toLowerA name.data.toList).toArray⟩ : ByteArray).size ≤ 20 := by
      show (Lib.toLowerA name.data.toList).toArray.size ≤ 20
      rw [List.size_toArray, Lib.toLowerA, List.length_map, Array.length_toList]; exact hsz
    generalize (⟨(Lib.toLowerA name.data.toList).toArray⟩ : ByteArray) = lw at hlow hchk hls
    go_enter Tryz.func26, Tryz.ntmps26
    go_wp2_with fail
    refine hfind.out.mono ?_
    rintro e w1 ⟨rfl, S2⟩
    clear hfind
    go_upto_region 4 with fail
    have S3 := (S2.alloc (.cells #[.string name, .int .i64 kind, .int .i64 least, .int .i64 most, .int .i64 first, .int .i64 last, .int .i64 step] 48)).permR (List.Perm.swap _ _ _)
    generalize w1.alloc (.cells #[.string name, .int .i64 kind, .int .i64 least, .int .i64 most, .int .i64 first, .int .i64 last, .int .i64 step] 48) = w2 at S3 ⊢
    generalize w1.heap.size = b1 at S3 ⊢
    generalize w.heap.size = b at S2 S3 ⊢
    clear S2 hcell hlt
    have S4 := S3
    have hbb : b ≠ b1 := by
      have := S3.own.nd
      simp only [keys_cons, List.nodup_cons, List.mem_cons, not_or] at this
      exact this.1.1
    have hodd := hid (odd_any S3 name kind least most first last step ((n : Nat) : Int))
    have hwrong : ∀ wx, Hid _ := fun wx => hid (fun (S : Step w0 [] wx ((b, .cells #[.string ByteArray.empty, .int .i64 0, .int .i64 0, .int .i64 0, .int .i64 0, .int .i64 0, .int .i64 0] 48 (0, 0)) :: (b1, .cells #[.string name, .int .i64 kind, .int .i64 least, .int .i64 most, .int .i64 first, .int .i64 last, .int .i64 step] 48 (0, 0)) :: r)) => (S.setSp zeroSp).less ((List.sublist_cons_self _ _).trans (List.sublist_cons_self _ _)))
    have hright : ∀ wx, Hid _ := fun wx => hid (fun (S : Step w0 [] wx ((b, .cells #[.string ByteArray.empty, .int .i64 0, .int .i64 0, .int .i64 0, .int .i64 0, .int .i64 0, .int .i64 0] 48 (0, 0)) :: (b1, .cells #[.string name, .int .i64 kind, .int .i64 least, .int .i64 most, .int .i64 first, .int .i64 last, .int .i64 step] 48 (0, 0)) :: r)) => (S.setSp ⟨name, kind, least, most, first, last, step⟩).less ((List.sublist_cons_self _ _).trans (List.sublist_cons_self _ _)))
    obtain ⟨hb, hb1, _, _⟩ : b < w2.heap.size ∧ b1 < w2.heap.size ∧ True ∧ True := ⟨block_lt S3.own.head, block_lt S3.own.tail.head, trivial, trivial⟩
    unfold zeroSp at hwrong
    unfold specVal at hodd
    replace S3 := hid S3
    have y0 := cells_get S4.own.tail.head 0
    have y1 := cells_get S4.own.tail.head 1
    have y2 := cells_get S4.own.tail.head 2
    have y3 := cells_get S4.own.tail.head 3
    have y4 := cells_get S4.own.tail.head 4
    have y5 := cells_get S4.own.tail.head 5
    have y6 := cells_get S4.own.tail.head 6
    simp only [List.getElem?_toArray, List.getElem?_cons_zero, List.getElem?_cons_succ] at y0 y1 y2 y3 y4 y5 y6
    clear S4
    by_cases h1 : ((n : Nat) : Int) < least
    · have hres := hid hchk.out
      rw [if_pos (.inl h1)] at hres
      clear hchk
      have hl := hid ((hlow w2).out)
      clear hlow hodd
      go_wp2_with fail
      refine hl.out.mono ?_
      rintro e w4 ⟨rfl, hbl⟩
      have S5 := S3.out.below hbl
      obtain ⟨⟨x0, hx0⟩, ⟨x1, hx1⟩, ⟨x2, hx2⟩, ⟨x3, hx3⟩, ⟨x4, hx4⟩, ⟨x5, hx5⟩, ⟨x6, hx6⟩, fz, hb⟩ := cells7 S5.own.head
      have S6 := hid ((hwrong w4).out S5)
      clear S3 hbl S5 hl hwrong hright
      go_wp2_with fail
      refine bodyPost_ret (v := .tuple #[zeroSp.val, .string (wrongNumber ++ lw)]) (by simp [results, Tryz.results26, go_sem, Sp.val, specVal, zeroSp, wrongNumber, *] <;> rfl) rfl ?_
      rw [hres.out]
      exact ⟨rfl, S6.out⟩
    · by_cases h2 : most < ((n : Nat) : Int)
      · have hres := hid hchk.out
        rw [if_pos (.inr (.inl h2))] at hres
        clear hchk
        have hl := hid ((hlow w2).out)
        clear hlow hodd
        go_wp2_with fail
        refine hl.out.mono ?_
        rintro e w4 ⟨rfl, hbl⟩
        have S5 := S3.out.below hbl
        obtain ⟨⟨x0, hx0⟩, ⟨x1, hx1⟩, ⟨x2, hx2⟩, ⟨x3, hx3⟩, ⟨x4, hx4⟩, ⟨x5, hx5⟩, ⟨x6, hx6⟩, fz, hb⟩ := cells7 S5.own.head
        have S6 := hid ((hwrong w4).out S5)
        clear S3 hbl S5 hl hwrong hright
        go_wp2_with fail
        refine bodyPost_ret (v := .tuple #[zeroSp.val, .string (wrongNumber ++ lw)]) (by simp [results, Tryz.results26, go_sem, Sp.val, specVal, zeroSp, wrongNumber, *] <;> rfl) rfl ?_
        rw [hres.out]
        exact ⟨rfl, S6.out⟩
      · cases ho : isOdd name ((n : Nat) : Int) with
        | true =>
          have hres := hid hchk.out
          rw [if_pos (.inr (.inr ho))] at hres
          rw [ho] at hodd
          replace ho := hid ho
          clear hchk
          go_wp2_with fail
          refine hodd.out.mono ?_
          rintro e w3 ⟨rfl, S3'⟩
          clear S3 hodd y0 y1 y2 y3 y4 y5 y6
          have y0 := cells_get S3'.own.tail.head 0
          simp only [List.getElem?_toArray, List.getElem?_cons_zero, List.getElem?_cons_succ] at y0
          have S3 := hid S3'
          have hl := hid ((hlow w3).out)
          clear hlow S3'
          go_wp2_with fail
          refine hl.out.mono ?_
          rintro e w4 ⟨rfl, hbl⟩
          have S5 := S3.out.below hbl
          obtain ⟨⟨x0, hx0⟩, ⟨x1, hx1⟩, ⟨x2, hx2⟩, ⟨x3, hx3⟩, ⟨x4, hx4⟩, ⟨x5, hx5⟩, ⟨x6, hx6⟩, fz, hb⟩ := cells7 S5.own.head
          have S6 := hid ((hwrong w4).out S5)
          clear S3 hbl S5 hl hwrong hright
          go_wp2_with fail
          refine bodyPost_ret (v := .tuple #[zeroSp.val, .string (wrongNumber ++ lw)]) (by simp [results, Tryz.results26, go_sem, Sp.val, specVal, zeroSp, wrongNumber, *] <;> rfl) rfl ?_
          rw [hres.out]
          exact ⟨rfl, S6.out⟩
        | false =>
          have hres := hid hchk.out
          rw [if_neg (by rw [ho]; simp only [Bool.false_eq_true, or_false]; exact fun h => h.elim h1 h2)] at hres
          rw [ho] at hodd
          replace ho := hid ho
          clear hchk
          go_wp2_with fail
          refine hodd.out.mono ?_
          rintro e w3 ⟨rfl, S3'⟩
          clear S3 hodd y0 y1 y2 y3 y4 y5 y6
          have y0 := cells_get S3'.own.tail.head 0
          have y1 := cells_get S3'.own.tail.head 1
          have y2 := cells_get S3'.own.tail.head 2
          have y3 := cells_get S3'.own.tail.head 3
          have y4 := cells_get S3'.own.tail.head 4
          have y5 := cells_get S3'.own.tail.head 5
          have y6 := cells_get S3'.own.tail.head 6
          simp only [List.getElem?_toArray, List.getElem?_cons_zero, List.getElem?_cons_succ] at y0 y1 y2 y3 y4 y5 y6
          obtain ⟨⟨x0, hx0⟩, ⟨x1, hx1⟩, ⟨x2, hx2⟩, ⟨x3, hx3⟩, ⟨x4, hx4⟩, ⟨x5, hx5⟩, ⟨x6, hx6⟩, fz, hb⟩ := cells7 S3'.own.head
          have S6 := hid ((hright w3).out S3')
          clear S3' hlow hwrong hright
          go_wp2_with fail
          refine bodyPost_ret (v := .tuple #[specVal name kind least most first last step, .string ByteArray.empty]) (by simp [results, Tryz.results26, go_sem, specVal, *] <;> rfl) rfl ?_
          rw [hres.out]
          exact ⟨rfl, S6.out⟩

end Go.Proofs.YthfngplckbggpaaGreatDoor
