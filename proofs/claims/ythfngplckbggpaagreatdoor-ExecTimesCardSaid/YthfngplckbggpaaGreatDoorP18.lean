/-
  words.All (printed by gen_all.py).
-/
import Derived.Test.YthfngplckbggpaaGreatDoorP17
import Derived.Great.BuildSlice
set_option linter.unusedVariables false
set_option linter.unusedSimpArgs false
namespace Go.Proofs.YthfngplckbggpaaGreatDoor
open Go Go.RowKit

/-- A command: its name, its kind, how many words at least and at most, its first and last key, and how far they are apart. -/
structure Sp where
  name : ByteArray
  kind : Int
  least : Int
  most : Int
  first : Int
  last : Int
  step : Int

def Sp.val (s : Sp) : Value := specVal s.name s.kind s.least s.most s.first s.last s.step
def Sp.cells (s : Sp) : List Value := [.string s.name, .int .i64 s.kind, .int .i64 s.least, .int .i64 s.most, .int .i64 s.first, .int .i64 s.last, .int .i64 s.step]
def spCells (l : List Sp) : List Value := l.flatMap Sp.cells

def specTab : List Sp :=
  [⟨⟨#[71, 69, 84]⟩, 1, 2, 2, 1, 1, 1⟩,
   ⟨⟨#[83, 69, 84]⟩, 2, 3, 64, 1, 1, 1⟩,
   ⟨⟨#[83, 69, 84, 78, 88]⟩, 2, 3, 3, 1, 1, 1⟩,
   ⟨⟨#[71, 69, 84, 83, 69, 84]⟩, 2, 3, 3, 1, 1, 1⟩,
   ⟨⟨#[71, 69, 84, 68, 69, 76]⟩, 2, 2, 2, 1, 1, 1⟩,
   ⟨⟨#[77, 71, 69, 84]⟩, 1, 2, 64, 1, (-1), 1⟩,
   ⟨⟨#[77, 83, 69, 84]⟩, 2, 3, 64, 1, (-1), 2⟩,
   ⟨⟨#[73, 78, 67, 82]⟩, 2, 2, 2, 1, 1, 1⟩,
   ⟨⟨#[68, 69, 67, 82]⟩, 2, 2, 2, 1, 1, 1⟩,
   ⟨⟨#[73, 78, 67, 82, 66, 89]⟩, 2, 3, 3, 1, 1, 1⟩,
   ⟨⟨#[68, 69, 67, 82, 66, 89]⟩, 2, 3, 3, 1, 1, 1⟩,
   ⟨⟨#[73, 78, 67, 82, 66, 89, 70, 76, 79, 65, 84]⟩, 2, 3, 3, 1, 1, 1⟩,
   ⟨⟨#[65, 80, 80, 69, 78, 68]⟩, 2, 3, 3, 1, 1, 1⟩,
   ⟨⟨#[83, 84, 82, 76, 69, 78]⟩, 1, 2, 2, 1, 1, 1⟩,
   ⟨⟨#[72, 83, 69, 84]⟩, 2, 4, 64, 1, 1, 1⟩,
   ⟨⟨#[72, 71, 69, 84]⟩, 1, 3, 3, 1, 1, 1⟩,
   ⟨⟨#[72, 68, 69, 76]⟩, 2, 3, 64, 1, 1, 1⟩,
   ⟨⟨#[72, 71, 69, 84, 65, 76, 76]⟩, 1, 2, 2, 1, 1, 1⟩,
   ⟨⟨#[72, 76, 69, 78]⟩, 1, 2, 2, 1, 1, 1⟩,
   ⟨⟨#[72, 69, 88, 73, 83, 84, 83]⟩, 1, 3, 3, 1, 1, 1⟩,
   ⟨⟨#[72, 77, 71, 69, 84]⟩, 1, 3, 64, 1, 1, 1⟩,
   ⟨⟨#[72, 73, 78, 67, 82, 66, 89]⟩, 2, 4, 4, 1, 1, 1⟩,
   ⟨⟨#[68, 69, 76]⟩, 2, 2, 64, 1, (-1), 1⟩,
   ⟨⟨#[85, 78, 76, 73, 78, 75]⟩, 2, 2, 64, 1, (-1), 1⟩,
   ⟨⟨#[69, 88, 73, 83, 84, 83]⟩, 1, 2, 64, 1, (-1), 1⟩,
   ⟨⟨#[69, 88, 80, 73, 82, 69]⟩, 2, 3, 3, 1, 1, 1⟩,
   ⟨⟨#[80, 69, 88, 80, 73, 82, 69]⟩, 2, 3, 3, 1, 1, 1⟩,
   ⟨⟨#[80, 69, 82, 83, 73, 83, 84]⟩, 2, 2, 2, 1, 1, 1⟩,
   ⟨⟨#[84, 84, 76]⟩, 1, 2, 2, 1, 1, 1⟩,
   ⟨⟨#[80, 84, 84, 76]⟩, 1, 2, 2, 1, 1, 1⟩,
   ⟨⟨#[84, 89, 80, 69]⟩, 1, 2, 2, 1, 1, 1⟩,
   ⟨⟨#[70, 76, 85, 83, 72, 65, 76, 76]⟩, 2, 1, 1, 0, 0, 0⟩,
   ⟨⟨#[68, 66, 83, 73, 90, 69]⟩, 1, 1, 1, 0, 0, 0⟩,
   ⟨⟨#[72, 69, 76, 76, 79]⟩, 3, 1, 2, 0, 0, 0⟩,
   ⟨⟨#[80, 73, 78, 71]⟩, 3, 1, 2, 0, 0, 0⟩,
   ⟨⟨#[69, 67, 72, 79]⟩, 3, 2, 2, 0, 0, 0⟩,
   ⟨⟨#[82, 69, 83, 69, 84]⟩, 3, 1, 1, 0, 0, 0⟩,
   ⟨⟨#[81, 85, 73, 84]⟩, 3, 1, 1, 0, 0, 0⟩,
   ⟨⟨#[67, 76, 73, 69, 78, 84]⟩, 3, 2, 64, 0, 0, 0⟩]


theorem specInfo : (Tryz.prog.info? 48).map (fun i => (i.zero, i.size, i.bytes)) = some (some (.agg #[.string ByteArray.empty, .int .i64 0, .int .i64 0, .int .i64 0, .int .i64 0, .int .i64 0, .int .i64 0]), 7, 64) := by kernel_rfl

def allParts : List (Nat × Value) := ((specTab.map Sp.val).zipIdx 0).map fun x => (x.2, x.1)
theorem allFill : Instr.fill (fun i => some (i * 7, 7)) ((Array.range (39 * 7)).map ((Value.agg #[.string ByteArray.empty, .int .i64 0, .int .i64 0, .int .i64 0, .int .i64 0, .int .i64 0, .int .i64 0]).cells[· % (Value.agg #[.string ByteArray.empty, .int .i64 0, .int .i64 0, .int .i64 0, .int .i64 0, .int .i64 0, .int .i64 0]).cells.size]!)) allParts = some (spCells specTab).toArray := by kernel_rfl

theorem wpList_buildAll {ops : Array Oper} {rest : List Oper} {o : Oper} {a : Act} {w : World} {Q : Exit → Act → World → Prop} (hg : o.guard = none) (parts : Array (Nat × Operand)) (ho : o.op = .buildSlice 130 39 parts)
    (hp : (parts.map fun (i, x) => (i, a.eval x)).toList = allParts)
    (h : wpList Tryz.prog ops Q rest (a.put o.dst (.slice (some ⟨w.heap.size, 0, none⟩) 39 39)) (w.alloc (.cells (spCells specTab).toArray 48))) : wpList Tryz.prog ops Q (o :: rest) a w := by
  obtain ⟨i, hi, hz, hsz, hby⟩ := info_parts specInfo
  refine wpList_buildSlice hg 130 48 39 parts ho (spCells specTab).toArray i _ Tryz.underlying130 hi hz (by rw [hsz]; decide) (by rw [hsz]; decide) ?_ h
  rw [hp, hsz]
  exact allFill

def AllPost (w0 : World) (r : Hp) (e : Ending) (w' : World) : Prop :=
  ∃ b, e = .returned (.slice (some ⟨b, 0, none⟩) 39 39) ∧ Step w0 [] w' ((b, .cells (spCells specTab).toArray 48 (0, 0)) :: r)

/-- A row: the numbers are laid, and spec is called. -/
theorem spec_row {w0 w : World} {r : Hp} (hS : Step w0 [] w r) (name : ByteArray) (kind a b c d f : Int) :
    Calls Tryz.prog 136 #[.string name, .int .i64 kind, .slice (some ⟨w.heap.size, 0, none⟩) 5 5] (w.alloc (.cells #[.int .i64 a, .int .i64 b, .int .i64 c, .int .i64 d, .int .i64 f] 3)) (AnsPost w0 r (specVal name kind a b c d f)) :=
  (spec_any (hS.alloc _) name kind).mono fun e w' h => h


set_option maxRecDepth 100000 in
set_option maxHeartbeats 4000000 in
theorem all_any {w0 w : World} {r : Hp} (hS : Step w0 [] w r) :
    Calls Tryz.prog 76 #[] w (AllPost w0 r) := by
  have S0 := hid hS
  clear hS
  go_enter Tryz.func76, Tryz.ntmps76
  go_wp2_with fail
  refine (spec_row S0.out _ _ _ _ _ _ _).mono ?_
  rintro e w1 ⟨rfl, S1⟩
  replace S1 := hid S1
  clear S0
  go_wp2_with fail
  refine (spec_row S1.out _ _ _ _ _ _ _).mono ?_
  rintro e w2 ⟨rfl, S2⟩
  replace S2 := hid S2
  clear S1
  go_wp2_with fail
  refine (spec_row S2.out _ _ _ _ _ _ _).mono ?_
  rintro e w3 ⟨rfl, S3⟩
  replace S3 := hid S3
  clear S2
  go_wp2_with fail
  refine (spec_row S3.out _ _ _ _ _ _ _).mono ?_
  rintro e w4 ⟨rfl, S4⟩
  replace S4 := hid S4
  clear S3
  go_wp2_with fail
  refine (spec_row S4.out _ _ _ _ _ _ _).mono ?_
  rintro e w5 ⟨rfl, S5⟩
  replace S5 := hid S5
  clear S4
  go_wp2_with fail
  refine (spec_row S5.out _ _ _ _ _ _ _).mono ?_
  rintro e w6 ⟨rfl, S6⟩
  replace S6 := hid S6
  clear S5
  go_wp2_with fail
  refine (spec_row S6.out _ _ _ _ _ _ _).mono ?_
  rintro e w7 ⟨rfl, S7⟩
  replace S7 := hid S7
  clear S6
  go_wp2_with fail
  refine (spec_row S7.out _ _ _ _ _ _ _).mono ?_
  rintro e w8 ⟨rfl, S8⟩
  replace S8 := hid S8
  clear S7
  go_wp2_with fail
  refine (spec_row S8.out _ _ _ _ _ _ _).mono ?_
  rintro e w9 ⟨rfl, S9⟩
  replace S9 := hid S9
  clear S8
  go_wp2_with fail
  refine (spec_row S9.out _ _ _ _ _ _ _).mono ?_
  rintro e w10 ⟨rfl, S10⟩
  replace S10 := hid S10
  clear S9
  go_wp2_with fail
  refine (spec_row S10.out _ _ _ _ _ _ _).mono ?_
  rintro e w11 ⟨rfl, S11⟩
  replace S11 := hid S11
  clear S10
  go_wp2_with fail
  refine (spec_row S11.out _ _ _ _ _ _ _).mono ?_
  rintro e w12 ⟨rfl, S12⟩
  replace S12 := hid S12
  clear S11
  go_wp2_with fail
  refine (spec_row S12.out _ _ _ _ _ _ _).mono ?_
  rintro e w13 ⟨rfl, S13⟩
  replace S13 := hid S13
  clear S12
  go_wp2_with fail
  refine (spec_row S13.out _ _ _ _ _ _ _).mono ?_
  rintro e w14 ⟨rfl, S14⟩
  replace S14 := hid S14
  clear S13
  go_wp2_with fail
  refine (spec_row S14.out _ _ _ _ _ _ _).mono ?_
  rintro e w15 ⟨rfl, S15⟩
  replace S15 := hid S15
  clear S14
  go_wp2_with fail
  refine (spec_row S15.out _ _ _ _ _ _ _).mono ?_
  rintro e w16 ⟨rfl, S16⟩
  replace S16 := hid S16
  clear S15
  go_wp2_with fail
  refine (spec_row S16.out _ _ _ _ _ _ _).mono ?_
  rintro e w17 ⟨rfl, S17⟩
  replace S17 := hid S17
  clear S16
  go_wp2_with fail
  refine (spec_row S17.out _ _ _ _ _ _ _).mono ?_
  rintro e w18 ⟨rfl, S18⟩
  replace S18 := hid S18
  clear S17
  go_wp2_with fail
  refine (spec_row S18.out _ _ _ _ _ _ _).mono ?_
  rintro e w19 ⟨rfl, S19⟩
  replace S19 := hid S19
  clear S18
  go_wp2_with fail
  refine (spec_row S19.out _ _ _ _ _ _ _).mono ?_
  rintro e w20 ⟨rfl, S20⟩
  replace S20 := hid S20
  clear S19
  go_wp2_with fail
  refine (spec_row S20.out _ _ _ _ _ _ _).mono ?_
  rintro e w21 ⟨rfl, S21⟩
  replace S21 := hid S21
  clear S20
  go_wp2_with fail
  refine (spec_row S21.out _ _ _ _ _ _ _).mono ?_
  rintro e w22 ⟨rfl, S22⟩
  replace S22 := hid S22
  clear S21
  go_wp2_with fail
  refine (spec_row S22.out _ _ _ _ _ _ _).mono ?_
  rintro e w23 ⟨rfl, S23⟩
  replace S23 := hid S23
  clear S22
  go_wp2_with fail
  refine (spec_row S23.out _ _ _ _ _ _ _).mono ?_
  rintro e w24 ⟨rfl, S24⟩
  replace S24 := hid S24
  clear S23
  go_wp2_with fail
  refine (spec_row S24.out _ _ _ _ _ _ _).mono ?_
  rintro e w25 ⟨rfl, S25⟩
  replace S25 := hid S25
  clear S24
  go_wp2_with fail
  refine (spec_row S25.out _ _ _ _ _ _ _).mono ?_
  rintro e w26 ⟨rfl, S26⟩
  replace S26 := hid S26
  clear S25
  go_wp2_with fail
  refine (spec_row S26.out _ _ _ _ _ _ _).mono ?_
  rintro e w27 ⟨rfl, S27⟩
  replace S27 := hid S27
  clear S26
  go_wp2_with fail
  refine (spec_row S27.out _ _ _ _ _ _ _).mono ?_
  rintro e w28 ⟨rfl, S28⟩
  replace S28 := hid S28
  clear S27
  go_wp2_with fail
  refine (spec_row S28.out _ _ _ _ _ _ _).mono ?_
  rintro e w29 ⟨rfl, S29⟩
  replace S29 := hid S29
  clear S28
  go_wp2_with fail
  refine (spec_row S29.out _ _ _ _ _ _ _).mono ?_
  rintro e w30 ⟨rfl, S30⟩
  replace S30 := hid S30
  clear S29
  go_wp2_with fail
  refine (spec_row S30.out _ _ _ _ _ _ _).mono ?_
  rintro e w31 ⟨rfl, S31⟩
  replace S31 := hid S31
  clear S30
  go_wp2_with fail
  refine (spec_row S31.out _ _ _ _ _ _ _).mono ?_
  rintro e w32 ⟨rfl, S32⟩
  replace S32 := hid S32
  clear S31
  go_wp2_with fail
  refine (spec_row S32.out _ _ _ _ _ _ _).mono ?_
  rintro e w33 ⟨rfl, S33⟩
  replace S33 := hid S33
  clear S32
  go_wp2_with fail
  refine (spec_row S33.out _ _ _ _ _ _ _).mono ?_
  rintro e w34 ⟨rfl, S34⟩
  replace S34 := hid S34
  clear S33
  go_wp2_with fail
  refine (spec_row S34.out _ _ _ _ _ _ _).mono ?_
  rintro e w35 ⟨rfl, S35⟩
  replace S35 := hid S35
  clear S34
  go_wp2_with fail
  refine (spec_row S35.out _ _ _ _ _ _ _).mono ?_
  rintro e w36 ⟨rfl, S36⟩
  replace S36 := hid S36
  clear S35
  go_wp2_with fail
  refine (spec_row S36.out _ _ _ _ _ _ _).mono ?_
  rintro e w37 ⟨rfl, S37⟩
  replace S37 := hid S37
  clear S36
  go_wp2_with fail
  refine (spec_row S37.out _ _ _ _ _ _ _).mono ?_
  rintro e w38 ⟨rfl, S38⟩
  replace S38 := hid S38
  clear S37
  go_wp2_with fail
  refine (spec_row S38.out _ _ _ _ _ _ _).mono ?_
  rintro e w39 ⟨rfl, S39⟩
  replace S39 := hid S39
  clear S38
  go_wp2_with (refine wpList_buildAll rfl _ rfl ?hp ?_; (case hp => kernel_rfl))
  go_ret
  exact ⟨_, rfl, S39.out.alloc _⟩

end Go.Proofs.YthfngplckbggpaaGreatDoor
