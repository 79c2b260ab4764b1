/-
  (*row).find answers what the plain findRow answers; nothing is written.
  (*row).put and (*row).bury: what they make of a row in memory.
  A table in memory: its struct, its old row's places, and, while it moves, its fresh row's.
  (*Table).Step moves some places; what the table holds stays.
-/
import Derived.Test.YthfngplckbggpaaGreatDoorP01
import Derived.Deep.QuietTactic
import Derived.BigQuiet
import Derived.StillTailTactics
import Derived.Deep.RegionWith
import Derived.Deep.LoopGhost
set_option linter.unusedVariables false
set_option linter.unusedSimpArgs false
namespace Go.Proofs.YthfngplckbggpaaGreatDoor
open Go Go.RowKit

def plVals (p : Pl) : List Value := [.int .i64 p.st, .string p.key, .int .i64 p.n]
def plCells (ps : List Pl) : List Value := ps.flatMap plVals
theorem plCells_len (ps : List Pl) : (plCells ps).length = 3 * ps.length := by
  induction ps with
  | nil => rfl
  | cons p ps ih =>
    have e : (plCells (p :: ps)).length = 3 + (plCells ps).length := by simp only [plCells, List.flatMap_cons, List.length_append]; rfl
    rw [e, ih, List.length_cons]; omega
theorem plCells_get (ps : List Pl) (i j : Nat) (hj : j < 3) : (plCells ps)[i * 3 + j]? = if i < ps.length then (plVals (plAt ps i))[j]? else none := by
  induction ps generalizing i with
  | nil => simp [plCells]
  | cons p ps ih =>
    cases i with
    | zero =>
      simp only [plCells, List.flatMap_cons, Nat.zero_mul, Nat.zero_add, List.length_cons, Nat.zero_lt_succ, if_true]
      rw [List.getElem?_append_left (by simp [plVals]; omega)]
      rfl
    | succ i =>
      simp only [plCells, List.flatMap_cons] at ih ⊢
      rw [List.getElem?_append_right (by simp [plVals]; omega)]
      have e : (i + 1) * 3 + j - (plVals p).length = i * 3 + j := by simp [plVals]; omega
      rw [e, ih i]
      simp only [List.length_cons, Nat.add_lt_add_iff_right]
      rfl

/-- A row of places lies at pb. -/
def PlacesAt (w : World) (pb : Nat) (ps : List Pl) : Prop := w.heap[pb]? = some (.cells (plCells ps).toArray 88 (0, 0))

theorem PlacesAt.st {w : World} {pb : Nat} {ps : List Pl} (h : PlacesAt w pb ps) {i : Nat} (hi : i < ps.length) : w.cell? ⟨pb, i * 3, none⟩ = some (.int .i64 (plAt ps i).st) := by
  have := plCells_get ps i 0 (by omega)
  rw [if_pos hi] at this
  rw [cells_get h]; simpa [plVals] using this
theorem PlacesAt.key {w : World} {pb : Nat} {ps : List Pl} (h : PlacesAt w pb ps) {i : Nat} (hi : i < ps.length) : w.cell? ⟨pb, i * 3 + 1, none⟩ = some (.string (plAt ps i).key) := by
  have := plCells_get ps i 1 (by omega)
  rw [if_pos hi] at this
  rw [cells_get h]; simpa [plVals] using this
theorem PlacesAt.n {w : World} {pb : Nat} {ps : List Pl} (h : PlacesAt w pb ps) {i : Nat} (hi : i < ps.length) : w.cell? ⟨pb, i * 3 + 2, none⟩ = some (.int .i64 (plAt ps i).n) := by
  have := plCells_get ps i 2 (by omega)
  rw [if_pos hi] at this
  rw [cells_get h]; simpa [plVals] using this

theorem findGo_step (ps : List Pl) (k : ByteArray) (L f i : Nat) (free : Option Nat) : findGo ps k L (f + 1) i free =
    if (plAt ps i).st = 1 ∧ (plAt ps i).key = k then (some i, true)
    else if (plAt ps i).st = 0 then (if free = none then some i else free, false)
    else findGo ps k L f ((i + 1) % L) (if (plAt ps i).st ≠ 1 ∧ free = none then some i else free) := rfl

def freeInt : Option Nat → Int
  | none => -1
  | some i => i
theorem freeInt_neg {f : Option Nat} (h : freeInt f < 0) : f = none := by
  cases f with
  | none => rfl
  | some i => simp only [freeInt] at h; omega
theorem freeInt_pos {f : Option Nat} (h : 0 ≤ freeInt f) : f ≠ none := by
  rintro rfl; simp [freeInt] at h
theorem pair2 {a a' : Int} {b b' : Bool} (h : a = a') (h2 : b = b') : Ending.returned (.tuple #[.int .i64 a, .bool b]) = .returned (.tuple #[.int .i64 a', .bool b']) := by rw [h, h2]

set_option maxHeartbeats 400000 in
theorem find_any (b o pb : Nat) (ps : List Pl) (key : ByteArray) (w : World) (hk : key.size ≤ maxLen) (hL : 0 < ps.length) (hB : ps.length ≤ 1099511627776)
    (hr : w.cell? ⟨b, o, none⟩ = some (.slice (some ⟨pb, 0, none⟩) ps.length ps.length)) (hp : PlacesAt w pb ps) :
    Calls Tryz.prog 181 #[.pointer (some ⟨b, o, none⟩), .string key] w fun e w' =>
      e = .returned (.tuple #[.int .i64 (freeInt (findRow hashNat ps key).1), .bool (findRow hashNat ps key).2]) ∧ ∃ n, w' = w.drewN n := by
  have hp' := hid hp
  clear hp
  have hw7 : wrap64 ((hashNat key : Nat) % (ps.length : Int)) = ((pathAt hashNat ps.length key 0 : Nat) : Int) := by
    have h1 := Nat.mod_lt (hashNat key) hL
    unfold wrap64 pathAt
    rw [← Int.natCast_emod, Nat.add_zero]
    omega
  have h0 : Hid (findGo ps key ps.length (ps.length - 0) (pathAt hashNat ps.length key 0) none = findRow hashNat ps key) := rfl
  go_enter Tryz.func181, Tryz.ntmps181
  go_wp2_with fail
  go_quiet ((go_at_call 213; exact Calls.quiet_of_same (same_flip (hash_any key _ hk))))
  go_wp2_with fail
  go_loop [6, 7, 24] (fun fr a c => ∃ (j : Nat) (free : Option Nat), j ≤ ps.length ∧ c = .int .i64 j ∧ a = .int .i64 (pathAt hashNat ps.length key j : Nat) ∧ fr = .int .i64 (freeInt free) ∧
      Hid (findGo ps key ps.length (ps.length - j) (pathAt hashNat ps.length key j) free = findRow hashNat ps key)) (fun _ _ c => ps.length - (intOf c).toNat)
  case atStart => exact ⟨0, none, Nat.zero_le _, rfl, by rw [hw7], rfl, h0⟩
  case round =>
    obtain ⟨j, free, hj, rfl, rfl, rfl, hgo⟩ := hrel
    clear hw7
    by_cases hlt : j < ps.length
    · have hi := pathAt_lt hashNat hL key j
      have c0 := hp'.out.st hi
      have c1 := hp'.out.key hi
      have hst := hgo.out
      rw [show ps.length - j = (ps.length - (j + 1)) + 1 by omega, findGo_step, pathAt_succ] at hst
      replace hst := hid hst
      clear hgo
      have hmod : (((pathAt hashNat ps.length key j : Nat) : Int) + 1) % (ps.length : Int) = ((pathAt hashNat ps.length key (j + 1) : Nat) : Int) := by rw [← pathAt_succ]; rfl
      replace hmod := hid hmod
      generalize plAt ps (pathAt hashNat ps.length key j) = p at *
      generalize pathAt hashNat ps.length key j = i at *
      go_wp2_with fail
      · rename_i h1 h2 _
        go_ret2
        rw [← hst.out, if_pos ⟨h1, str_yes h2⟩]
        exact ⟨rfl, _, rfl⟩
      · rename_i h1 h2
        go_round
        case rel =>
          refine ⟨j + 1, free, by omega, by go_num, by rw [hmod.out], rfl, ?_⟩
          have := hst.out
          rw [if_neg (fun h => str_no h2 h.2), if_neg (by rw [h1]; decide), if_neg (fun h => h.1 h1)] at this
          exact this
        case measure => simp [intOf]; omega
      · have h1 : ¬ p.st = 1 := by assumption
        have h2 : (p.st != 1) = true ∧ freeInt free < 0 := by assumption
        have h3 : (p.st == 0) = true := by assumption
        go_ret2
        have hf := freeInt_neg h2.2
        subst hf
        rw [← hst.out, if_neg (fun h => h1 h.1), if_pos (by simpa using h3)]
        exact ⟨rfl, _, rfl⟩
      · rename_i h1 h2 h3
        have hf := freeInt_neg h2.2
        subst hf
        go_round
        case rel =>
          refine ⟨j + 1, some i, by omega, by go_num, by rw [hmod.out], rfl, ?_⟩
          have := hst.out
          rw [if_neg (fun h => h1 h.1), if_neg (by simpa using h3), if_pos ⟨h1, rfl⟩] at this
          exact this
        case measure => simp [intOf]; omega
      · have h1 : ¬ p.st = 1 := by assumption
        have h2 : (p.st != 1) = false ∨ 0 ≤ freeInt free := by assumption
        have h3 : (p.st == 0) = true := by assumption
        go_ret2
        have hf := freeInt_pos (h2.resolve_left (by simpa using h1))
        rw [← hst.out, if_neg (fun h => h1 h.1), if_pos (by simpa using h3)]
        simp only [hf, if_false]
        exact ⟨rfl, _, rfl⟩
      · rename_i h1 h2 h3
        have hf := freeInt_pos (h2.resolve_left (by simpa using h1))
        go_round
        case rel =>
          refine ⟨j + 1, free, by omega, by go_num, by rw [hmod.out], rfl, ?_⟩
          have := hst.out
          rw [if_neg (fun h => h1 h.1), if_neg (by simpa using h3), if_neg (fun h => hf h.2)] at this
          exact this
        case measure => simp [intOf]; omega
    · obtain rfl : j = ps.length := by omega
      have hst := hgo.out
      rw [Nat.sub_self] at hst
      replace hst := hid hst
      clear hgo
      go_wp2_with fail
      go_ret2
      rw [← hst.out]
      exact ⟨rfl, _, rfl⟩
end Go.Proofs.YthfngplckbggpaaGreatDoor

namespace Go.Proofs.YthfngplckbggpaaGreatDoor
open Go Go.RowKit

theorem plCells_set (ps : List Pl) (i : Nat) (q : Pl) (hi : i < ps.length) :
    (((plCells ps).toArray.setIfInBounds (i * 3) (.int .i64 q.st)).setIfInBounds (i * 3 + 1) (.string q.key)).setIfInBounds (i * 3 + 2) (.int .i64 q.n) = (plCells (ps.set i q)).toArray := by
  simp only [List.setIfInBounds_toArray]
  congr 1
  apply List.ext_getElem?
  intro m
  obtain ⟨a, j, hj, rfl⟩ : ∃ a j, j < 3 ∧ m = a * 3 + j := ⟨m / 3, m % 3, Nat.mod_lt _ (by omega), by omega⟩
  have hl := plCells_len ps
  rw [plCells_get _ _ _ hj, List.length_set, plAt_set hi]
  simp only [List.getElem?_set, List.length_set, hl]
  by_cases ha : a = i
  · subst ha
    rw [if_pos hi, if_pos rfl]
    obtain rfl | rfl | rfl : j = 0 ∨ j = 1 ∨ j = 2 := by omega
    · simp [plVals]; omega
    · simp [plVals]; omega
    · simp [plVals]; omega
  · rw [if_neg ha, if_neg (by omega), if_neg (by omega), if_neg (by omega), plCells_get _ _ _ hj]

abbrev PlObj (ps : List Pl) : Obj := .cells (plCells ps).toArray 88 (0, 0)

/-- The cells of a row's struct, behind a put at a free place. -/
def putCells (cs : Array Value) (o : Nat) (r : Row) (i : Nat) : Array Value :=
  if (plAt r.ps i).st = 2 then (cs.setIfInBounds (o + 1) (.int .i64 (r.fl + 1))).setIfInBounds (o + 2) (.int .i64 (r.gr - 1)) else cs.setIfInBounds (o + 1) (.int .i64 (r.fl + 1))

set_option maxHeartbeats 400000 in
theorem put_any (b o pb i : Nat) (cs : Array Value) (r : Row) (key : ByteArray) (n : Int) (w : World) (hk : key.size ≤ maxLen) (hL : 0 < r.ps.length) (hB : r.ps.length ≤ 1099511627776)
    (hfl : 0 ≤ r.fl ∧ r.fl ≤ 1099511627776) (hgr : 0 ≤ r.gr ∧ r.gr ≤ 1099511627776)
    (ho : Own w [(b, .cells cs 85 (0, 0)), (pb, PlObj r.ps)])
    (h0 : cs[o]? = some (.slice (some ⟨pb, 0, none⟩) r.ps.length r.ps.length)) (h1 : cs[o + 1]? = some (.int .i64 r.fl)) (h2 : cs[o + 2]? = some (.int .i64 r.gr))
    (hf : findRow hashNat r.ps key = (some i, false)) (hi : i < r.ps.length) (hst : (plAt r.ps i).st ≠ 1) :
    Calls Tryz.prog 180 #[.pointer (some ⟨b, o, none⟩), .string key, .int .i64 n] w fun e w' =>
      e = .returned (.tuple #[]) ∧ Step w [(b, .cells cs 85 (0, 0)), (pb, PlObj r.ps)] w' [(b, .cells (putCells cs o r i) 85 (0, 0)), (pb, PlObj (r.putAt i key n).ps)] := by
  have hb : w.heap[b]? = some (.cells cs 85 (0, 0)) := ho.head
  have hp : PlacesAt w pb r.ps := ho.tail.head
  have hne : b ≠ pb := by have := ho.nd; simp at this; exact this
  have hstep := hid (Step.refl ho)
  have c0 : w.cell? ⟨b, o, none⟩ = _ := (cells_get hb o).trans h0
  have c1 : w.cell? ⟨b, o + 1, none⟩ = _ := (cells_get hb (o + 1)).trans h1
  have c2 : w.cell? ⟨b, o + 2, none⟩ = _ := (cells_get hb (o + 2)).trans h2
  have f1 : w.frozen? ⟨b, o + 1, none⟩ = false := cells_free hb _
  have f2 : w.frozen? ⟨b, o + 2, none⟩ = false := cells_free hb _
  have p0 := hp.st hi
  have p1 := hp.key hi
  have p2 := hp.n hi
  have g0 : w.frozen? ⟨pb, i * 3, none⟩ = false := cells_free hp _
  have g1 : w.frozen? ⟨pb, i * 3 + 1, none⟩ = false := cells_free hp _
  have g2 : w.frozen? ⟨pb, i * 3 + 2, none⟩ = false := cells_free hp _
  have hfd := find_any b o pb r.ps key w hk hL hB c0 hp
  rw [hf] at hfd
  simp only [freeInt] at hfd
  replace hfd := hid hfd
  have hps := hid hp
  have hset := hid (plCells_set r.ps i ⟨1, key, n⟩ hi)
  have hpa : (r.putAt i key n).ps = r.ps.set i ⟨1, key, n⟩ := by unfold Row.putAt; rw [if_neg hst]
  rw [hpa]
  clear hpa hb hp ho hf h0 h1 h2
  by_cases h2 : (plAt r.ps i).st = 2
  · have ht : ((plAt r.ps i).st == 2) = true := by simpa using h2
    have hpc : putCells cs o r i = (cs.setIfInBounds (o + 1) (.int .i64 (r.fl + 1))).setIfInBounds (o + 2) (.int .i64 (r.gr - 1)) := by unfold putCells; rw [if_pos h2]
    rw [hpc]
    clear hpc h2
    go_enter Tryz.func180, Tryz.ntmps180
    go_wp2_with fail
    refine hfd.out.mono ?_
    rintro e w' ⟨rfl, nd, rfl⟩
    go_wp2_with fail
    go_end0
    refine ⟨rfl, ?_⟩
    have fin := (((((hstep.out.drewN nd).set (o + 1) (.int .i64 (r.fl + 1))).set (o + 2) (.int .i64 (r.gr - 1))).set2 (i * 3) (.int .i64 1)).set2 (i * 3 + 1) (.string key)).set2 (i * 3 + 2) (.int .i64 n)
    rw [hset.out] at fin
    exact fin
  · have ht : ((plAt r.ps i).st == 2) = false := by simpa using h2
    have hpc : putCells cs o r i = cs.setIfInBounds (o + 1) (.int .i64 (r.fl + 1)) := by unfold putCells; rw [if_neg h2]
    rw [hpc]
    clear hpc h2
    go_enter Tryz.func180, Tryz.ntmps180
    go_wp2_with fail
    refine hfd.out.mono ?_
    rintro e w' ⟨rfl, nd, rfl⟩
    go_wp2_with fail
    go_end0
    refine ⟨rfl, ?_⟩
    have fin := ((((hstep.out.drewN nd).set (o + 1) (.int .i64 (r.fl + 1))).set2 (i * 3) (.int .i64 1)).set2 (i * 3 + 1) (.string key)).set2 (i * 3 + 2) (.int .i64 n)
    rw [hset.out] at fin
    exact fin

def buryCells (cs : Array Value) (o : Nat) (r : Row) : Array Value := (cs.setIfInBounds (o + 1) (.int .i64 (r.fl - 1))).setIfInBounds (o + 2) (.int .i64 (r.gr + 1))

set_option maxHeartbeats 400000 in
theorem bury_any (b o pb i : Nat) (cs : Array Value) (r : Row) (w : World) (hB : r.ps.length ≤ 1099511627776)
    (hfl : 0 ≤ r.fl ∧ r.fl ≤ 1099511627776) (hgr : 0 ≤ r.gr ∧ r.gr ≤ 1099511627776)
    (ho : Own w [(b, .cells cs 85 (0, 0)), (pb, PlObj r.ps)])
    (h0 : cs[o]? = some (.slice (some ⟨pb, 0, none⟩) r.ps.length r.ps.length)) (h1 : cs[o + 1]? = some (.int .i64 r.fl)) (h2 : cs[o + 2]? = some (.int .i64 r.gr)) (hi : i < r.ps.length) :
    Calls Tryz.prog 179 #[.pointer (some ⟨b, o, none⟩), .int .i64 i] w fun e w' =>
      e = .returned (.tuple #[]) ∧ Step w [(b, .cells cs 85 (0, 0)), (pb, PlObj r.ps)] w' [(b, .cells (buryCells cs o r) 85 (0, 0)), (pb, PlObj (r.bury i).ps)] := by
  have hb : w.heap[b]? = some (.cells cs 85 (0, 0)) := ho.head
  have hp : PlacesAt w pb r.ps := ho.tail.head
  have hne : b ≠ pb := by have := ho.nd; simp at this; exact this
  have hstep := hid (Step.refl ho)
  have c0 : w.cell? ⟨b, o, none⟩ = _ := (cells_get hb o).trans h0
  have c1 : w.cell? ⟨b, o + 1, none⟩ = _ := (cells_get hb (o + 1)).trans h1
  have c2 : w.cell? ⟨b, o + 2, none⟩ = _ := (cells_get hb (o + 2)).trans h2
  have f1 : w.frozen? ⟨b, o + 1, none⟩ = false := cells_free hb _
  have f2 : w.frozen? ⟨b, o + 2, none⟩ = false := cells_free hb _
  have p0 := hp.st hi
  have p1 := hp.key hi
  have p2 := hp.n hi
  have g0 : w.frozen? ⟨pb, i * 3, none⟩ = false := cells_free hp _
  have g1 : w.frozen? ⟨pb, i * 3 + 1, none⟩ = false := cells_free hp _
  have g2 : w.frozen? ⟨pb, i * 3 + 2, none⟩ = false := cells_free hp _
  have hset := hid (plCells_set r.ps i gravePl hi)
  have hpa : (r.bury i).ps = r.ps.set i gravePl := rfl
  rw [hpa]
  clear hpa hb hp ho h0 h1 h2
  go_enter Tryz.func179, Tryz.ntmps179
  go_wp2_with fail
  go_end0
  refine ⟨rfl, ?_⟩
  have fin := ((((hstep.out.set2 (i * 3) (.int .i64 2)).set2 (i * 3 + 1) (.string ByteArray.empty)).set2 (i * 3 + 2) (.int .i64 0)).set (o + 1) (.int .i64 (r.fl - 1))).set (o + 2) (.int .i64 (r.gr + 1))
  have hset' := hset.out
  simp only [gravePl] at hset'
  rw [hset'] at fin
  exact fin
end Go.Proofs.YthfngplckbggpaaGreatDoor

namespace Go.Proofs.YthfngplckbggpaaGreatDoor
open Go Go.RowKit

def slcV (o : Option Nat) (n : Nat) : Value := match o with
  | none => .slice none 0 0
  | some b => .slice (some ⟨b, 0, none⟩) n n
def tabArr (po : Nat) (pf : Option Nat) (T : Tb) : Array Value :=
  #[.slice (some ⟨po, 0, none⟩) T.old.ps.length T.old.ps.length, .int .i64 T.old.fl, .int .i64 T.old.gr, slcV pf T.fresh.ps.length, .int .i64 T.fresh.fl, .int .i64 T.fresh.gr, .bool T.moving, .int .i64 T.next]
abbrev TabObj (po : Nat) (pf : Option Nat) (T : Tb) : Obj := .cells (tabArr po pf T) 85 (0, 0)
def freshHp (pf : Option Nat) (T : Tb) : Hp := match pf with
  | none => []
  | some f => [(f, PlObj T.fresh.ps)]
def TabHp (b po : Nat) (pf : Option Nat) (T : Tb) : Hp := (b, TabObj po pf T) :: (po, PlObj T.old.ps) :: freshHp pf T

/-- What lies at b is a table that holds M. -/
def IsTable (l : Hp) (b : Nat) (M : KV) (c : Nat) : Prop := ∃ T po pf, TabOk hashNat T M c ∧ T.moving = pf.isSome ∧ l = TabHp b po pf T

theorem IsTable.weak {l : Hp} {b : Nat} {M : KV} {c c' : Nat} (h : IsTable l b M c) (hc : c' ≤ c) : IsTable l b M c' := by
  obtain ⟨T, po, pf, h1, h2, h3⟩ := h
  exact ⟨T, po, pf, h1.weak hc, h2, h3⟩

/-- The eight cells of a table's struct. -/
structure TabCells (w : World) (b po : Nat) (pf : Option Nat) (T : Tb) : Prop where
  c0 : w.cell? ⟨b, 0, none⟩ = some (.slice (some ⟨po, 0, none⟩) T.old.ps.length T.old.ps.length)
  c1 : w.cell? ⟨b, 1, none⟩ = some (.int .i64 T.old.fl)
  c2 : w.cell? ⟨b, 2, none⟩ = some (.int .i64 T.old.gr)
  c3 : w.cell? ⟨b, 3, none⟩ = some (slcV pf T.fresh.ps.length)
  c4 : w.cell? ⟨b, 4, none⟩ = some (.int .i64 T.fresh.fl)
  c5 : w.cell? ⟨b, 5, none⟩ = some (.int .i64 T.fresh.gr)
  c6 : w.cell? ⟨b, 6, none⟩ = some (.bool T.moving)
  c7 : w.cell? ⟨b, 7, none⟩ = some (.int .i64 T.next)
  fz : ∀ j, w.frozen? ⟨b, j, none⟩ = false
  lt : b < w.heap.size
theorem tabCells {w : World} {b po : Nat} {pf : Option Nat} {T : Tb} (h : w.heap[b]? = some (TabObj po pf T)) : TabCells w b po pf T :=
  ⟨cells_get h 0, cells_get h 1, cells_get h 2, cells_get h 3, cells_get h 4, cells_get h 5, cells_get h 6, cells_get h 7, fun j => cells_free h j, block_lt h⟩

theorem RowFit.bd {hs : ByteArray → Nat} {r : Row} (h : RowFit hs r) (hB : r.ps.length ≤ 1099511627776) : (0 ≤ r.fl ∧ r.fl ≤ 1099511627776) ∧ (0 ≤ r.gr ∧ r.gr ≤ 1099511627776) := by
  have h1 := h.fl
  have h2 := h.gr
  have := cnt_le r.ps 1
  have := cnt_le r.ps 2
  omega
theorem grave_pos {hs : ByteArray → Nat} {r : Row} {i : Nat} (h : RowFit hs r) (hi : i < r.ps.length) (h2 : (plAt r.ps i).st = 2) : 1 ≤ r.gr := by
  have := h.gr
  have hm : 0 < cntSt r.ps 2 := List.countP_pos_iff.2 ⟨plAt r.ps i, List.mem_of_getElem? (at_plAt hi), by simp [h2]⟩
  omega

theorem tab_buryOld (po : Nat) (pf : Option Nat) (T : Tb) (i : Nat) : buryCells (tabArr po pf T) 0 T.old = tabArr po pf { T with old := T.old.bury i } := by
  simp [buryCells, tabArr, Row.bury]
theorem tab_buryFresh (po : Nat) (pf : Option Nat) (T : Tb) (i : Nat) : buryCells (tabArr po pf T) 3 T.fresh = tabArr po pf { T with fresh := T.fresh.bury i } := by
  simp [buryCells, tabArr, Row.bury]
theorem tab_putOld (po : Nat) (pf : Option Nat) (T : Tb) (i : Nat) (k : ByteArray) (n : Int) (h : (plAt T.old.ps i).st ≠ 1) : putCells (tabArr po pf T) 0 T.old i = tabArr po pf { T with old := T.old.putAt i k n } := by
  by_cases h2 : (plAt T.old.ps i).st = 2 <;> simp [putCells, tabArr, Row.putAt, h, h2]
theorem tab_putFresh (po : Nat) (pf : Option Nat) (T : Tb) (i : Nat) (k : ByteArray) (n : Int) (h : (plAt T.fresh.ps i).st ≠ 1) : putCells (tabArr po pf T) 3 T.fresh i = tabArr po pf { T with fresh := T.fresh.putAt i k n } := by
  by_cases h2 : (plAt T.fresh.ps i).st = 2 <;> simp [putCells, tabArr, Row.putAt, h, h2]
theorem tab_next (po : Nat) (pf : Option Nat) (T : Tb) (n : Nat) : (tabArr po pf T).setIfInBounds 7 (.int .i64 n) = tabArr po pf { T with next := n } := by
  simp [tabArr]
theorem tab_get (po : Nat) (pf : Option Nat) (T : Tb) : (tabArr po pf T)[0]? = some (.slice (some ⟨po, 0, none⟩) T.old.ps.length T.old.ps.length) ∧ (tabArr po pf T)[1]? = some (.int .i64 T.old.fl) ∧ (tabArr po pf T)[2]? = some (.int .i64 T.old.gr) ∧
    (tabArr po pf T)[3]? = some (slcV pf T.fresh.ps.length) ∧ (tabArr po pf T)[4]? = some (.int .i64 T.fresh.fl) ∧ (tabArr po pf T)[5]? = some (.int .i64 T.fresh.gr) := ⟨rfl, rfl, rfl, rfl, rfl, rfl⟩
theorem TabOk.keyOld {hs : ByteArray → Nat} {T : Tb} {M : KV} {c i : Nat} (h : TabOk hs T M c) (hi : i < T.old.ps.length) (h1 : (plAt T.old.ps i).st = 1) : (plAt T.old.ps i).key ∈ M.map Prod.fst :=
  List.mem_map.2 ⟨_, mem_of_look (h.memOld hi h1), rfl⟩

/-- Burying in the old row, and in the fresh one; putting in either: a table's part, its frame told. -/
theorem bury_old (b po i : Nat) (pf : Option Nat) (T : Tb) (w : World) {l m r : Hp} {w0 : World} (hS : Step w0 l w m) (hp : m.Perm (TabHp b po pf T ++ r)) (hB : T.old.ps.length ≤ 1099511627776) (hf : RowFit hashNat T.old) (hi : i < T.old.ps.length) :
    Calls Tryz.prog 179 #[.pointer (some ⟨b, 0, none⟩), .int .i64 i] w fun e w' => e = .returned (.tuple #[]) ∧ Step w0 l w' (TabHp b po pf { T with old := T.old.bury i } ++ r) := by
  have hown := hS.own.perm hp
  have hsplit : TabHp b po pf T ++ r = [(b, TabObj po pf T), (po, PlObj T.old.ps)] ++ (freshHp pf T ++ r) := by simp [TabHp]
  rw [hsplit] at hown hp
  refine (bury_any b 0 po i (tabArr po pf T) T.old w hB (hf.bd hB).1 (hf.bd hB).2 hown.left rfl rfl rfl hi).mono ?_
  rintro e w' ⟨he, hs⟩
  refine ⟨he, ?_⟩
  rw [tab_buryOld po pf T i] at hs
  have := hS.part hp hs
  simpa [TabHp, freshHp] using this
theorem freshHp_some (f : Nat) (T : Tb) : freshHp (some f) T = [(f, PlObj T.fresh.ps)] := rfl
theorem bury_fresh (b po f i : Nat) (T : Tb) (w : World) {l m r : Hp} {w0 : World} (hS : Step w0 l w m) (hp : m.Perm (TabHp b po (some f) T ++ r)) (hB : T.fresh.ps.length ≤ 1099511627776) (hf : RowFit hashNat T.fresh) (hi : i < T.fresh.ps.length) :
    Calls Tryz.prog 179 #[.pointer (some ⟨b, 3, none⟩), .int .i64 i] w fun e w' => e = .returned (.tuple #[]) ∧ Step w0 l w' (TabHp b po (some f) { T with fresh := T.fresh.bury i } ++ r) := by
  have hsplit : (TabHp b po (some f) T ++ r).Perm ([(b, TabObj po (some f) T), (f, PlObj T.fresh.ps)] ++ ((po, PlObj T.old.ps) :: r)) := List.Perm.cons _ (List.Perm.swap _ _ _)
  have hp2 := hp.trans hsplit
  have hown := hS.own.perm hp2
  refine (bury_any b 3 f i (tabArr po (some f) T) T.fresh w hB (hf.bd hB).1 (hf.bd hB).2 hown.left rfl rfl rfl hi).mono ?_
  rintro e w' ⟨he, hs⟩
  refine ⟨he, ?_⟩
  rw [tab_buryFresh po (some f) T i] at hs
  exact (hS.part hp2 hs).permR (List.Perm.cons _ (List.Perm.swap _ _ _))
theorem put_old (b po i : Nat) (pf : Option Nat) (T : Tb) (key : ByteArray) (n : Int) (w : World) {l m r : Hp} {w0 : World} (hS : Step w0 l w m) (hp : m.Perm (TabHp b po pf T ++ r)) (hk : key.size ≤ maxLen) (hB : T.old.ps.length ≤ 1099511627776) (hf : RowFit hashNat T.old)
    (hfd : findRow hashNat T.old.ps key = (some i, false)) (hpp : PutPlace hashNat T.old.ps key i) :
    Calls Tryz.prog 180 #[.pointer (some ⟨b, 0, none⟩), .string key, .int .i64 n] w fun e w' => e = .returned (.tuple #[]) ∧ Step w0 l w' (TabHp b po pf { T with old := T.old.putAt i key n } ++ r) := by
  have hown := hS.own.perm hp
  have hsplit : TabHp b po pf T ++ r = [(b, TabObj po pf T), (po, PlObj T.old.ps)] ++ (freshHp pf T ++ r) := by simp [TabHp]
  rw [hsplit] at hown hp
  refine (put_any b 0 po i (tabArr po pf T) T.old key n w hk (by have := hpp.lt; omega) hB (hf.bd hB).1 (hf.bd hB).2 hown.left rfl rfl rfl hfd hpp.lt hpp.free).mono ?_
  rintro e w' ⟨he, hs⟩
  refine ⟨he, ?_⟩
  rw [tab_putOld po pf T i key n hpp.free] at hs
  have := hS.part hp hs
  simpa [TabHp, freshHp] using this
theorem put_fresh (b po f i : Nat) (T : Tb) (key : ByteArray) (n : Int) (w : World) {l m r : Hp} {w0 : World} (hS : Step w0 l w m) (hp : m.Perm (TabHp b po (some f) T ++ r)) (hk : key.size ≤ maxLen) (hB : T.fresh.ps.length ≤ 1099511627776) (hf : RowFit hashNat T.fresh)
    (hfd : findRow hashNat T.fresh.ps key = (some i, false)) (hpp : PutPlace hashNat T.fresh.ps key i) :
    Calls Tryz.prog 180 #[.pointer (some ⟨b, 3, none⟩), .string key, .int .i64 n] w fun e w' => e = .returned (.tuple #[]) ∧ Step w0 l w' (TabHp b po (some f) { T with fresh := T.fresh.putAt i key n } ++ r) := by
  have hsplit : (TabHp b po (some f) T ++ r).Perm ([(b, TabObj po (some f) T), (f, PlObj T.fresh.ps)] ++ ((po, PlObj T.old.ps) :: r)) := List.Perm.cons _ (List.Perm.swap _ _ _)
  have hp2 := hp.trans hsplit
  have hown := hS.own.perm hp2
  refine (put_any b 3 f i (tabArr po (some f) T) T.fresh key n w hk (by have := hpp.lt; omega) hB (hf.bd hB).1 (hf.bd hB).2 hown.left rfl rfl rfl hfd hpp.lt hpp.free).mono ?_
  rintro e w' ⟨he, hs⟩
  refine ⟨he, ?_⟩
  rw [tab_putFresh po (some f) T i key n hpp.free] at hs
  exact (hS.part hp2 hs).permR (List.Perm.cons _ (List.Perm.swap _ _ _))

end Go.Proofs.YthfngplckbggpaaGreatDoor

namespace Go.Proofs.YthfngplckbggpaaGreatDoor
open Go Go.RowKit

theorem tab_done {w0 w : World} {l : Hp} {b po f : Nat} {T : Tb} (hS : Step w0 l w (TabHp b po (some f) T)) :
    Step w0 l ((((((((w.setCell ⟨b, 0, none⟩ (.slice (some ⟨f, 0, none⟩) T.fresh.ps.length T.fresh.ps.length)).setCell ⟨b, 1, none⟩ (.int .i64 T.fresh.fl)).setCell ⟨b, 2, none⟩ (.int .i64 T.fresh.gr)).setCell ⟨b, 3, none⟩ (.slice none 0 0)).setCell ⟨b, 4, none⟩ (.int .i64 0)).setCell ⟨b, 5, none⟩ (.int .i64 0)).setCell ⟨b, 6, none⟩ (.bool false)).setCell ⟨b, 7, none⟩ (.int .i64 0))
      (TabHp b f none ⟨T.fresh, noRow, false, 0⟩) := by
  have fin := (((((((hS.set 0 (.slice (some ⟨f, 0, none⟩) T.fresh.ps.length T.fresh.ps.length)).set 1 (.int .i64 T.fresh.fl)).set 2 (.int .i64 T.fresh.gr)).set 3 (.slice none 0 0)).set 4 (.int .i64 0)).set 5 (.int .i64 0)).set 6 (.bool false)).set 7 (.int .i64 0)
  have e : (((((((((tabArr po (some f) T).setIfInBounds 0 (.slice (some ⟨f, 0, none⟩) T.fresh.ps.length T.fresh.ps.length)).setIfInBounds 1 (.int .i64 T.fresh.fl)).setIfInBounds 2 (.int .i64 T.fresh.gr)).setIfInBounds 3 (.slice none 0 0)).setIfInBounds 4 (.int .i64 0)).setIfInBounds 5 (.int .i64 0)).setIfInBounds 6 (.bool false)).setIfInBounds 7 (.int .i64 0)) = tabArr f none ⟨T.fresh, noRow, false, 0⟩ := by
    simp [tabArr, noRow, slcV]
  rw [e] at fin
  exact fin.less (List.Sublist.cons_cons _ (List.Sublist.cons _ (List.Sublist.refl _)))

set_option maxRecDepth 100000 in
set_option maxHeartbeats 1000000 in
theorem step_busy (b po f : Nat) (T : Tb) (M : KV) (w : World) (hok : TabOk hashNat T M 0) (hm : T.moving = true) (hM : ∀ k ∈ M.map Prod.fst, k.size ≤ maxLen) (ho : Own w (TabHp b po (some f) T)) :
    Calls Tryz.prog 134 #[.pointer (some ⟨b, 0, none⟩)] w fun e w' => e = .returned (.tuple #[]) ∧ ∃ l', IsTable l' b M 4 ∧ Step w (TabHp b po (some f) T) w' l' := by
  have hc := tabCells ho.head
  have c6 := hc.c6
  rw [hm] at c6
  have hst := hid (Step.refl ho)
  have hok' := hid hok
  have hm' := hid hm
  clear hok hm ho hc
  go_enter Tryz.func134, Tryz.ntmps134
  go_wp2_with fail
  clear c6
  go_loopw [8] (fun c wr => ∃ (k po' f' : Nat) (T' : Tb), k ≤ 4 ∧ c = .int .i64 k ∧ Hid (TabOk hashNat T' M k) ∧ Hid (T'.moving = true) ∧ Hid (Step w (TabHp b po (some f) T) wr (TabHp b po' (some f') T'))) (fun c _ => 4 - (intOf c).toNat)
  case atStart => exact ⟨0, po, f, T, by omega, rfl, hok', hm', hst⟩
  case round =>
    obtain ⟨k, po', f', T', hk, rfl, hT, hmv, hS⟩ := hrel
    by_cases hlt : k < 4
    · have hown := hS.out.own
      obtain ⟨hc0, hc1, hc2, hc3, hc4, hc5, hc6, hc7, hfz, hblt⟩ := tabCells hown.head
      obtain ⟨a1, a2, a3, a4, a5, a6⟩ := hT.out.busy hmv.out
      have hlB := hT.out.lenB
      have hpo : PlacesAt wr po' T'.old.ps := hown.tail.head
      have hpolt := block_lt hpo
      have p0 := hpo.st a1
      have p1 := hpo.key a1
      have p2 := hpo.n a1
      replace hown := hid hown
      replace hpo := hid hpo
      clear hok' hm' hst
      by_cases hst1 : (plAt T'.old.ps T'.next).st = 1
      · have ht : ((plAt T'.old.ps T'.next).st == 1) = true := by simpa using hst1
        have hk1 := hM _ (hT.out.keyOld a1 hst1)
        have hfd := findRow_ok hashNat T'.fresh.ps (plAt T'.old.ps T'.next).key hT.out.fresh.ok (by omega)
        obtain ⟨i, hi⟩ : ∃ i, (findRow hashNat T'.fresh.ps (plAt T'.old.ps T'.next).key) = (some i, false) := by
          have hnd := hT.out
          cases hr : findRow hashNat T'.fresh.ps (plAt T'.old.ps T'.next).key with
          | mk r1 r2 =>
            rw [hr] at hfd
            cases r1 with
            | some i =>
              have := (hnd.move hmv.out hst1 hfd rfl).1
              simp only at this
              exact ⟨i, by rw [this]⟩
            | none =>
              cases r2 with
              | true => obtain ⟨i, hi, _⟩ := hfd.yes rfl; cases hi
              | false => obtain ⟨i, hi, _⟩ := hfd.place rfl (hnd.room hmv.out); cases hi
        rw [hi] at hfd
        obtain ⟨_, hpp, hT2⟩ := hT.out.move hmv.out hst1 hfd rfl
        have S1 := (hS.out.alloc (.cells #[.int .i64 (plAt T'.old.ps T'.next).st, .string (plAt T'.old.ps T'.next).key, .int .i64 (plAt T'.old.ps T'.next).n] 88)).drew
        replace S1 := hid S1
        replace hst1 := hid hst1
        replace hi := hid hi
        replace a6 := hid a6
        replace hpp := hid hpp
        replace hT2 := hid hT2
        clear hfd
        go_wp2_with fail
        go_region
        go_wp2_with fail
        have hpb := (S1.out.own).lt (b := wr.heap.size) (by simp)
        generalize hw1 : (wr.alloc (.cells #[.int .i64 (plAt T'.old.ps T'.next).st, .string (plAt T'.old.ps T'.next).key, .int .i64 (plAt T'.old.ps T'.next).n] 88)).drew = w1 at S1 hpb ⊢
        clear hc0 hc1 hc2 hc3 hc4 hc5 hc6 hc7 hfz hblt p0 p1 p2 hw1 hpolt
        have hb1 := S1.out.own.tail.head
        have hpp1 := S1.out.own.head
        have d7 := (tabCells hb1).c7
        have q1 := cells_get hpp1 1
        have q2 := cells_get hpp1 2
        simp only [List.getElem?_toArray, List.getElem?_cons_succ, List.getElem?_cons_zero] at q1 q2
        clear hb1 hpp1
        go_still_tail 7, (by kernel_rfl)
        go_wp2_with fail
        refine (bury_old b po' T'.next (some f') T' _ S1.out.drew (m := (wr.heap.size, _) :: TabHp b po' (some f') T') (r := [(wr.heap.size, _)]) ((List.perm_append_singleton _ _).symm) hlB hT.out.old a1).mono ?_
        rintro e w2 ⟨rfl, S2⟩
        replace S2 := hid S2
        clear d7 q1 q2
        go_wp2_with fail
        have hpp2 := S2.out.own.right.head
        have q1 := cells_get hpp2 1
        have q2 := cells_get hpp2 2
        simp only [List.getElem?_toArray, List.getElem?_cons_succ, List.getElem?_cons_zero] at q1 q2
        clear hpp2
        go_still_tail 7, (by kernel_rfl)
        go_wp2_with fail
        refine (put_fresh b po' f' i { T' with old := T'.old.bury T'.next } _ _ _ S2.out.drew (List.Perm.refl _) hk1 a3 hT.out.fresh hi.out hpp.out).mono ?_
        rintro e w3 ⟨rfl, S3⟩
        obtain ⟨T3, hT3, hm3, hn3, S3⟩ : ∃ T3 : Tb, TabOk hashNat T3 M k ∧ T3.moving = true ∧ (plAt T3.old.ps T3.next).st ≠ 1 ∧ Step w (TabHp b po (some f) T) w3 (TabHp b po' (some f') T3) := by
          refine ⟨_, hT2.out, hmv.out, ?_, S3.less (List.sublist_append_left _ _)⟩
          show (plAt (T'.old.ps.set T'.next gravePl) T'.next).st ≠ 1
          rw [plAt_set a1, if_pos rfl]
          decide
        replace hT3 := hid hT3
        replace hm3 := hid hm3
        replace hn3 := hid hn3
        replace S3 := hid S3
        clear S1 S2 q1 q2 hpp hpb hi hT2 hS hpo hown a6
        have hb3 := S3.out.own.head
        obtain ⟨d0, d1, d2, d3, d4, d5, d6, d7, dz, dlt⟩ := tabCells hb3
        obtain ⟨b1, b2, b3, b4, b5, b6⟩ := hT3.out.busy hm3.out
        replace b6 := hid b6
        have hB3 := hT3.out.lenB
        have S4 := S3.out.set 7 (.int .i64 ((T3.next + 1 : Nat) : Int))
        rw [tab_next] at S4
        replace S4 := hid S4
        have ecast : ((T3.next + 1 : Nat) : Int) = (T3.next : Int) + 1 := by omega
        rw [ecast] at S4
        clear hb3 S3 d0 d1 d2 d3 d4 d5 d6
        go_wp2_with fail
        clear dz d7 dlt
        generalize w3.setCell ⟨b, 7, none⟩ (.int .i64 ((T3.next : Int) + 1)) = w4 at S4 ⊢
        obtain ⟨d0, d1, d2, d3, d4, d5, d6, d7, dz, dlt⟩ := tabCells S4.out.own.head
        simp only [slcV] at d3
        by_cases hend : T3.next + 1 = T3.old.ps.length
        · have ht : ((T3.next : Int) + 1 == (T3.old.ps.length : Int)) = true := by rw [beq_iff_eq]; omega
          have hfin := hid (hT3.out.done (c' := 4) hm3.out hn3.out hend)
          replace hend := hid hend
          go_quiet (fail)
          go_wp2_with fail
          refine bodyPost_ret (results_none rfl _ _ _) rfl ?_
          refine ⟨rfl, _, ⟨⟨T3.fresh, noRow, false, 0⟩, f', none, hfin.out, rfl, rfl⟩, ?_⟩
          exact tab_done (T := { T3 with next := T3.next + 1 }) (S4.out.drewN nq)
        · have ht : ((T3.next : Int) + 1 == (T3.old.ps.length : Int)) = false := by rw [beq_eq_false_iff_ne]; omega
          have hpass := hid (hT3.out.pass hm3.out hn3.out (by omega))
          replace hend := hid hend
          go_quiet (fail)
          go_wp2_with fail
          go_roundw
          case rel => exact ⟨k + 1, po', f', _, by omega, by go_num, hpass, hm3, hid (S4.out.drewN nq)⟩
          case measure => simp [intOf]; omega
      · have ht : ((plAt T'.old.ps T'.next).st == 1) = false := by simpa using hst1
        have S1 := (hS.out.alloc (.cells #[.int .i64 (plAt T'.old.ps T'.next).st, .string (plAt T'.old.ps T'.next).key, .int .i64 (plAt T'.old.ps T'.next).n] 88)).drew
        replace hst1 := hid hst1
        replace a6 := hid a6
        go_wp2_with fail
        go_region
        generalize hw1 : (wr.alloc (.cells #[.int .i64 (plAt T'.old.ps T'.next).st, .string (plAt T'.old.ps T'.next).key, .int .i64 (plAt T'.old.ps T'.next).n] 88)).drew = w3 at S1 ⊢
        have hpq := cells_get S1.own.head 0
        simp only [List.getElem?_toArray, List.getElem?_cons_zero] at hpq
        have S3 := hid (S1.less (List.sublist_cons_self _ _))
        clear hc0 hc1 hc2 hc3 hc4 hc5 hc6 hc7 hfz hblt p0 p1 p2 hw1 hpolt S1
        obtain ⟨T3, hT3, hm3, hn3, hTT⟩ : ∃ T3 : Tb, Hid (TabOk hashNat T3 M k) ∧ Hid (T3.moving = true) ∧ Hid ((plAt T3.old.ps T3.next).st ≠ 1) ∧ T3 = T' := ⟨T', hT, hmv, hst1, rfl⟩
        subst hTT
        have hb3 := S3.out.own.head
        obtain ⟨d0, d1, d2, d3, d4, d5, d6, d7, dz, dlt⟩ := tabCells hb3
        obtain ⟨b1, b2, b3, b4, b5, b6⟩ := hT3.out.busy hm3.out
        replace b6 := hid b6
        have hB3 := hT3.out.lenB
        have S4 := S3.out.set 7 (.int .i64 ((T3.next + 1 : Nat) : Int))
        rw [tab_next] at S4
        replace S4 := hid S4
        have ecast : ((T3.next + 1 : Nat) : Int) = (T3.next : Int) + 1 := by omega
        rw [ecast] at S4
        clear hb3 S3 d0 d1 d2 d3 d4 d5 d6
        go_wp2_with fail
        clear dz d7 dlt
        generalize w3.setCell ⟨b, 7, none⟩ (.int .i64 ((T3.next : Int) + 1)) = w4 at S4 ⊢
        obtain ⟨d0, d1, d2, d3, d4, d5, d6, d7, dz, dlt⟩ := tabCells S4.out.own.head
        simp only [slcV] at d3
        by_cases hend : T3.next + 1 = T3.old.ps.length
        · have ht : ((T3.next : Int) + 1 == (T3.old.ps.length : Int)) = true := by rw [beq_iff_eq]; omega
          have hfin := hid (hT3.out.done (c' := 4) hm3.out hn3.out hend)
          replace hend := hid hend
          go_quiet (fail)
          go_wp2_with fail
          refine bodyPost_ret (results_none rfl _ _ _) rfl ?_
          refine ⟨rfl, _, ⟨⟨T3.fresh, noRow, false, 0⟩, f', none, hfin.out, rfl, rfl⟩, ?_⟩
          exact tab_done (T := { T3 with next := T3.next + 1 }) (S4.out.drewN nq)
        · have ht : ((T3.next : Int) + 1 == (T3.old.ps.length : Int)) = false := by rw [beq_eq_false_iff_ne]; omega
          have hpass := hid (hT3.out.pass hm3.out hn3.out (by omega))
          replace hend := hid hend
          go_quiet (fail)
          go_wp2_with fail
          go_roundw
          case rel => exact ⟨k + 1, po', f', _, by omega, by go_num, hpass, hm3, hid (S4.out.drewN nq)⟩
          case measure => simp [intOf]; omega
    · obtain rfl : k = 4 := by omega
      go_wp2_with fail
      go_end0
      exact ⟨rfl, _, ⟨T', po', some f', hT.out, hmv.out, rfl⟩, hS.out⟩
end Go.Proofs.YthfngplckbggpaaGreatDoor
