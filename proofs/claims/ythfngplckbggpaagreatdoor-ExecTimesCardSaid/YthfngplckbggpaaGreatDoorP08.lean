/-
  item: what an item's fields are in memory; slices.Clone of them; Copy.
  The order of names: strings.Compare, byName; the plain law of byte order.
  item.at: where a field stands (slices.BinarySearchFunc).
  item.at over any fields; item.Get; item.field; item.Copy.
-/
import Derived.Test.YthfngplckbggpaaGreatDoorProg
import Derived.Test.YthfngplckbggpaaGreatDoorP04
import Derived.Test.YthfngplckbggpaaGreatDoorP05
import Derived.StillTailTactics
import Derived.Deep.RegionWith
import Derived.WalkLawsBesides
import Derived.Handy
import Derived.Great.BuildSlice
import Derived.Lib.LazyBuf
import Derived.Lib.Bytealg
import Derived.Laws.Externs
import Derived.Deep.RegionHeld3
set_option linter.unusedVariables false
set_option linter.unusedSimpArgs false
namespace Go.Proofs.YthfngplckbggpaaGreatDoor
open Go Go.RowKit

/-- Fields: a name and a text each. -/
abbrev Fs := List (ByteArray × ByteArray)

def fsCells : Fs → List Value
  | [] => []
  | f :: fs => .string f.1 :: .string f.2 :: fsCells fs

theorem fsCells_len : ∀ fs : Fs, (fsCells fs).length = fs.length * 2
  | [] => rfl
  | f :: fs => by simp only [fsCells, List.length_cons, fsCells_len fs]; omega

theorem fsCells_one : ∀ (fs : Fs), ∀ u ∈ fsCells fs, u.oneCell' = true
  | [], u, h => by cases h
  | f :: fs, u, h => by
    rcases List.mem_cons.1 h with rfl | h
    · rfl
    rcases List.mem_cons.1 h with rfl | h
    · rfl
    exact fsCells_one fs u h

theorem fsCells_append : ∀ fs gs : Fs, fsCells (fs ++ gs) = fsCells fs ++ fsCells gs
  | [], gs => rfl
  | f :: fs, gs => by simp [fsCells, fsCells_append fs gs]

theorem fsCells_name : ∀ (fs : Fs) (i : Nat) (f : ByteArray × ByteArray), fs[i]? = some f → (fsCells fs)[2 * i]? = some (.string f.1) ∧ (fsCells fs)[2 * i + 1]? = some (.string f.2)
  | [], i, f, h => by simp at h
  | g :: fs, 0, f, h => by simp at h; subst h; exact ⟨rfl, rfl⟩
  | g :: fs, i + 1, f, h => by
    have := fsCells_name fs i f (by simpa using h)
    simpa only [fsCells, Nat.mul_add, Nat.mul_one, List.getElem?_cons_succ, show 2 * i + 2 + 1 = (2 * i + 1) + 1 + 1 from rfl, show 2 * i + 2 = (2 * i) + 1 + 1 from rfl] using this

/-- v is a slice of these fields; none is nil. -/
structure IsFields (v : Value) (fs : Fs) (l : Hp) : Prop where
  sl : SliceHp 2 96 v fs.length (fsCells fs) l
  nil : fs = [] → v = .slice none 0 0

theorem fieldInfo : (Tryz.prog.info? 96).map (fun i => (i.zero, i.size, i.bytes)) = some (some (.agg #[.string ByteArray.empty, .string ByteArray.empty]), 2, 32) := by kernel_rfl

theorem SliceHp.view {k : Nat} {T : TypeId} {v : Value} {n : Nat} {xs : List Value} {l : Hp} (h : SliceHp k T v n xs l) (hn : 0 < n) :
    ∃ g cap rest, v = .slice (some ⟨g, 0, none⟩) n cap ∧ n ≤ cap ∧ cap ≤ maxLen ∧ l = [(g, .cells (xs ++ rest).toArray T (0, 0))] ∧ rest.length = (cap - n) * k := by
  cases h with
  | nil => omega
  | laid g n cap xs rest hx hr hn hc => exact ⟨g, cap, rest, rfl, hn, hc, rfl, hr⟩

theorem fields_nil (a : Option Addr) (n c : Nat) (w : World) : (binOp .eql 60 (.slice a n c) (.slice none 0 0)).run Tryz.prog w = .ok (.bool a.isNone) w :=
  run_eql_slice_nil (P := Tryz.prog) w _ _ a n c Tryz.underlying60

theorem wpList_buildEmpty {ops : Array Oper} {rest : List Oper} {o : Oper} {a : Act} {w : World} {Q : Exit → Act → World → Prop} (hg : o.guard = none) (ho : o.op = .buildSlice 60 0 #[]) 
    (h : wpList Tryz.prog ops Q rest (a.put o.dst (.slice (some ⟨w.heap.size, 0, none⟩) 0 0)) (w.alloc (.cells #[] 96))) : wpList Tryz.prog ops Q (o :: rest) a w := by
  refine wpList_plain hg fun K hK => ?_
  obtain ⟨i, hi, hz, hsz, hby⟩ := info_parts fieldInfo
  unfold Oper.wp execOp
  simp only [ho, Sem.run_bind]
  have : (Instr.buildSlice 60 0 #[]).run Tryz.prog w = .ok (.slice (some ⟨w.heap.size, 0, none⟩) 0 0) (w.alloc (.cells #[] 96)) := by
    simp [Instr.buildSlice, run_underlying Tryz.underlying60, sizeOf, typeInfo, hi, Instr.fill, newRow]
    have hr0 : Array.range 0 = #[] := by decide
    rw [hr0, Array.map_empty]
  simp only [Array.map_empty]
  rw [this]
  simp only [Result.andThen_ok]
  exact hK _ _ h

set_option maxRecDepth 100000 in
theorem clone_any {w0 w : World} {l r sl : Hp} {v : Value} {fs : Fs} (hS : Step w0 l w (sl ++ r)) (hat : IsFields v fs sl) (hB : fs.length ≤ 1048576) :
    Calls Tryz.prog 74 #[v] w fun e w' => ∃ v' sl', e = .returned v' ∧ IsFields v' fs sl' ∧ Step w0 l w' (sl' ++ (sl ++ r)) := by
  by_cases hz : fs = []
  · subst hz
    obtain rfl := hat.nil rfl
    have hfin : Hid (∃ v' sl', Value.slice none 0 0 = v' ∧ IsFields v' [] sl' ∧ Step w0 l w (sl' ++ (sl ++ r))) := ⟨_, [], rfl, ⟨.nil, fun _ => rfl⟩, hS⟩
    have hq := fields_nil none 0 0
    go_enter Tryz.func74, Tryz.ntmps74
    go_wp2
    go_ret
    obtain ⟨v', sl', rfl, h⟩ := hfin.out
    exact ⟨_, _, rfl, h⟩
  · have hn : 0 < fs.length := List.length_pos_iff.2 hz
    obtain ⟨g, cap, rest, rfl, hc, hc2, rfl, hrest⟩ := hat.sl.view hn
    have S1 := hS.alloc (.cells #[] 96)
    have hg := S1.own.tail.head
    obtain ⟨v', w2, sl', hrun, hsl', S2, _⟩ := run_append (P := Tryz.prog) (ty := 60) Tryz.underlying60 Tryz.underlying60 fieldInfo rfl (by decide)
      (sl := [(w.heap.size, .cells #[] 96)]) S1 (.laid w.heap.size 0 0 [] [] rfl rfl (Nat.le_refl _) (by decide))
      ⟨g, 0, none⟩ fs.length cap (fsCells fs) (fsCells_len fs) (by
        intro j u hu
        have hadd : (⟨g, 0, none⟩ : Addr).add j = ⟨g, j, none⟩ := by unfold Addr.add; split <;> simp_all
        rw [hadd, cells_get hg]
        have hj : j < (fsCells fs).length := (List.getElem?_eq_some_iff.1 hu).1
        simp only [List.getElem?_toArray]
        rw [List.getElem?_append_left hj, hu]) (fsCells_one fs) hn (by omega) (by unfold maxLen; omega)
    simp only [Nat.zero_add, List.nil_append] at hsl'
    have hfin : Hid (∃ v'' sl', v' = v'' ∧ IsFields v'' fs sl' ∧ Step w0 l w2 (sl' ++ ([(g, .cells (fsCells fs ++ rest).toArray 96 (0, 0))] ++ r))) := ⟨_, sl', rfl, ⟨hsl', fun h => absurd h hz⟩, S2⟩
    clear S1 S2 hg hat hS hsl'
    replace hrun := hid hrun
    have hq := fields_nil (some ⟨g, 0, none⟩) fs.length cap
    go_enter Tryz.func74, Tryz.ntmps74
    go_wp2_with (first | (at_builtin; refine wpList_append_run rfl _ _ _ _ rfl _ _ rfl rfl hrun.out ?_) | (refine wpList_buildEmpty rfl rfl ?_))
    go_ret
    obtain ⟨v'', sl', rfl, h⟩ := hfin.out
    exact ⟨_, _, rfl, h⟩

end Go.Proofs.YthfngplckbggpaaGreatDoor

namespace Go.Proofs.YthfngplckbggpaaGreatDoor
open Go Go.RowKit

theorem cb_range : ∀ a b : List UInt8, Lib.compareBytes a b = -1 ∨ Lib.compareBytes a b = 0 ∨ Lib.compareBytes a b = 1
  | [], [] => .inr (.inl rfl)
  | [], _ :: _ => .inl rfl
  | _ :: _, [] => .inr (.inr rfl)
  | a :: s, b :: t => by
    unfold Lib.compareBytes
    by_cases h : a < b
    · simp [h]
    · by_cases h2 : b < a
      · simp [h, h2]
      · simp only [h, h2, if_false]; exact cb_range s t

theorem cb_refl : ∀ a : List UInt8, Lib.compareBytes a a = 0
  | [] => rfl
  | a :: s => by unfold Lib.compareBytes; simp [UInt8.lt_irrefl, cb_refl s]

theorem cb_eq : ∀ a b : List UInt8, Lib.compareBytes a b = 0 → a = b
  | [], [], _ => rfl
  | [], _ :: _, h => by simp [Lib.compareBytes] at h
  | _ :: _, [], h => by simp [Lib.compareBytes] at h
  | a :: s, b :: t, h => by
    unfold Lib.compareBytes at h
    by_cases h1 : a < b
    · simp [h1] at h
    · by_cases h2 : b < a
      · simp [h1, h2] at h
      · simp only [h1, h2, if_false] at h
        have := cb_eq s t h
        have e : a = b := UInt8.le_antisymm (UInt8.not_lt.1 h2) (UInt8.not_lt.1 h1)
        rw [e, this]

theorem cb_flip : ∀ a b : List UInt8, Lib.compareBytes b a = - Lib.compareBytes a b
  | [], [] => rfl
  | [], _ :: _ => rfl
  | _ :: _, [] => rfl
  | a :: s, b :: t => by
    unfold Lib.compareBytes
    by_cases h1 : a < b
    · have h2 : ¬ b < a := fun h => UInt8.lt_irrefl a (UInt8.lt_trans h1 h)
      simp [h1, h2]
    · by_cases h2 : b < a
      · simp [h1, h2]
      · simp only [h1, h2, if_false]; exact cb_flip s t

theorem cb_trans : ∀ a b c : List UInt8, Lib.compareBytes a b < 0 → Lib.compareBytes b c < 0 → Lib.compareBytes a c < 0
  | [], [], _, h, _ => by simp [Lib.compareBytes] at h
  | [], _ :: _, [], _, h => by simp [Lib.compareBytes] at h
  | [], _ :: _, _ :: _, _, _ => by simp [Lib.compareBytes]
  | _ :: _, [], _, h, _ => by simp [Lib.compareBytes] at h
  | _ :: _, _ :: _, [], _, h => by simp [Lib.compareBytes] at h
  | a :: s, b :: t, c :: u, h1, h2 => by
    have key := cb_trans s t u
    unfold Lib.compareBytes at h1 h2 ⊢
    by_cases hab : a < b
    · by_cases hbc : b < c
      · simp [UInt8.lt_trans hab hbc]
      · by_cases hcb : c < b
        · simp [hbc, hcb] at h2
        · have e : b = c := UInt8.le_antisymm (UInt8.not_lt.1 hcb) (UInt8.not_lt.1 hbc)
          subst e; simp [hab]
    · by_cases hba : b < a
      · simp [hab, hba] at h1
      · have e : a = b := UInt8.le_antisymm (UInt8.not_lt.1 hba) (UInt8.not_lt.1 hab)
        subst e
        simp only [hab, if_false] at h1
        by_cases hbc : a < c
        · simp [hbc]
        · by_cases hcb : c < a
          · simp [hbc, hcb] at h2
          · simp only [hbc, hcb, if_false] at h2 ⊢
            exact key h1 h2

/-- The order of two names. -/
def ncmp (a b : ByteArray) : Int := Lib.compareBytes a.data.toList b.data.toList

theorem ncmp_eq {a b : ByteArray} (h : ncmp a b = 0) : a = b := by
  have := cb_eq _ _ h
  obtain ⟨⟨a⟩⟩ := a; obtain ⟨⟨b⟩⟩ := b
  simpa using this
theorem ncmp_refl (a : ByteArray) : ncmp a a = 0 := cb_refl _
theorem ncmp_flip (a b : ByteArray) : ncmp b a = - ncmp a b := cb_flip _ _
theorem ncmp_trans {a b c : ByteArray} (h1 : ncmp a b < 0) (h2 : ncmp b c < 0) : ncmp a c < 0 := cb_trans _ _ _ h1 h2
theorem ncmp_range (a b : ByteArray) : ncmp a b = -1 ∨ ncmp a b = 0 ∨ ncmp a b = 1 := cb_range _ _

set_option maxRecDepth 100000 in
theorem comparestring_any (a b : ByteArray) (w : World) :
    Calls Tryz.prog 232 #[.string a, .string b] w fun e w' => e = .returned (.int .i64 (ncmp a b)) ∧ w' = w := by
  go_enter Tryz.func232, Tryz.ntmps232
  go_wp2
  rw [run_callFunc_extern Tryz.func248 (by kernel_rfl) (by kernel_rfl) (by kernel_rfl) (e := Extern.BytealgCompare.compare) (by kernel_rfl), Lib.run_compareString]
  simp only [Result.andThen]
  rw [Oper.upon_value]
  go_wp2
  go_ret
  exact ⟨rfl, rfl⟩

theorem compare_any (a b : ByteArray) (w : World) :
    Calls Tryz.prog 217 #[.string a, .string b] w fun e w' => e = .returned (.int .i64 (ncmp a b)) ∧ w' = w := by
  go_enter Tryz.func217, Tryz.ntmps217
  go_wp2_with (go_at_call 232; refine (comparestring_any _ _ _).mono ?_; rintro e w' ⟨rfl, rfl⟩)
  go_ret
  exact ⟨rfl, rfl⟩

/-- A field as a value. -/
def fval (f : ByteArray × ByteArray) : Value := .agg #[.string f.1, .string f.2]

set_option maxRecDepth 100000 in
theorem byname_any {w0 w : World} {l r : Hp} (hS : Step w0 l w r) (f g : ByteArray × ByteArray) :
    Calls Tryz.prog 188 #[fval f, fval g] w fun e w' => e = .returned (.int .i64 (ncmp f.1 g.1)) ∧ Step w0 l w' r := by
  go_enter Tryz.func188, Tryz.ntmps188
  unfold fval
  go_wp2_with (go_at_call 217; refine (compare_any _ _ _).mono ?_; rintro e w' ⟨rfl, rfl⟩)
  go_ret
  exact ⟨rfl, ((hS.alloc _).alloc _).less ((List.sublist_cons_self _ _).trans (List.sublist_cons_self _ _))⟩

end Go.Proofs.YthfngplckbggpaaGreatDoor

namespace Go.Proofs.YthfngplckbggpaaGreatDoor
open Go Go.RowKit

/-- The fields rise by name. -/
def Rise (fs : Fs) : Prop := fs.Pairwise fun f g => ncmp f.1 g.1 < 0

/-- Where a field stands, or would. -/
def pos (fs : Fs) (name : ByteArray) : Nat := (fs.takeWhile fun f => decide (ncmp f.1 name < 0)).length

/-- Does one stand there? -/
def has (fs : Fs) (name : ByteArray) : Bool := (fs[pos fs name]?).any fun f => ncmp f.1 name == 0

theorem pos_of : ∀ (fs : Fs) (name : ByteArray) (k : Nat), k ≤ fs.length → (∀ (i : Nat) (f : ByteArray × ByteArray), i < k → fs[i]? = some f → ncmp f.1 name < 0) →
    (∀ f : ByteArray × ByteArray, fs[k]? = some f → ¬ ncmp f.1 name < 0) → pos fs name = k
  | [], name, k, h, _, _ => by simp at h; subst h; rfl
  | f :: fs, name, 0, _, _, h2 => by
    have := h2 f rfl
    simp [pos, this]
  | f :: fs, name, k + 1, h, h1, h2 => by
    have a := h1 0 f (by omega) rfl
    have ih := pos_of fs name k (by simpa using h) (fun i g hi hg => h1 (i + 1) g (by omega) (by simpa using hg)) (fun g hg => h2 g (by simpa using hg))
    simp only [pos] at ih ⊢
    simp [a, ih]

theorem pos_le (fs : Fs) (name : ByteArray) : pos fs name ≤ fs.length := (List.takeWhile_sublist _).length_le

theorem rise_lt {fs : Fs} (h : Rise fs) {i j : Nat} {f g : ByteArray × ByteArray} (hij : i < j) (hf : fs[i]? = some f) (hg : fs[j]? = some g) : ncmp f.1 g.1 < 0 := by
  have hi := (List.getElem?_eq_some_iff.1 hf)
  have hj := (List.getElem?_eq_some_iff.1 hg)
  obtain ⟨hi, rfl⟩ := hi
  obtain ⟨hj, rfl⟩ := hj
  exact List.pairwise_iff_getElem.1 h i j hi hj hij

/-- The search's state: all ahead of lo are less, all from hi on are not. -/
structure Seek (fs : Fs) (name : ByteArray) (lo hi : Nat) : Prop where
  le : lo ≤ hi
  top : hi ≤ fs.length
  lt : ∀ (i : Nat) (f : ByteArray × ByteArray), i < lo → fs[i]? = some f → ncmp f.1 name < 0
  ge : ∀ (i : Nat) (f : ByteArray × ByteArray), hi ≤ i → fs[i]? = some f → ¬ ncmp f.1 name < 0

theorem Seek.start (fs : Fs) (name : ByteArray) : Seek fs name 0 fs.length :=
  ⟨Nat.zero_le _, Nat.le_refl _, fun i f h => by omega, fun i f h hf => by have := (List.getElem?_eq_some_iff.1 hf).1; omega⟩
theorem Seek.up {fs : Fs} {name : ByteArray} {lo hi m : Nat} {f : ByteArray × ByteArray} (h : Seek fs name lo hi) (hr : Rise fs) (h2 : m < hi) (hf : fs[m]? = some f) (hc : ncmp f.1 name < 0) : Seek fs name (m + 1) hi := by
  refine ⟨h2, h.top, fun i g hi hg => ?_, h.ge⟩
  by_cases e : i = m
  · subst e; rw [hf] at hg; injection hg with hg; subst hg; exact hc
  · exact ncmp_trans (rise_lt hr (by omega) hg hf) hc
theorem Seek.down {fs : Fs} {name : ByteArray} {lo hi m : Nat} {f : ByteArray × ByteArray} (h : Seek fs name lo hi) (hr : Rise fs) (h1 : lo ≤ m) (h2 : m < hi) (hf : fs[m]? = some f) (hc : ¬ ncmp f.1 name < 0) : Seek fs name lo m := by
  refine ⟨h1, by have := h.top; omega, h.lt, fun i g hi hg => ?_⟩
  by_cases e : i = m
  · subst e; rw [hf] at hg; injection hg with hg; subst hg; exact hc
  · exact fun hn => hc (ncmp_trans (rise_lt hr (by omega) hf hg) hn)
theorem Seek.done {fs : Fs} {name : ByteArray} {k : Nat} (h : Seek fs name k k) : pos fs name = k :=
  pos_of fs name k h.top h.lt (fun f hf => h.ge k f (Nat.le_refl _) hf)

theorem seek_cells {w0 w : World} {l r : Hp} {g xb : Nat} {fs : Fs} {rest : List Value} {x f : ByteArray × ByteArray} {m : Nat}
    (hS : Step w0 l w ((xb, .cells #[.string x.1, .string x.2] 96 (0, 0)) :: (g, .cells (fsCells fs ++ rest).toArray 96 (0, 0)) :: r)) (hf : fs[m]? = some f) :
    w.cell? ⟨g, m * 2, none⟩ = some (.string f.1) ∧ w.cell? ⟨g, m * 2 + 1, none⟩ = some (.string f.2) ∧ w.cell? ⟨xb, 0, none⟩ = some (.string x.1) ∧ w.cell? ⟨xb, 1, none⟩ = some (.string x.2) ∧
      Hid (Step w0 l w ((xb, .cells #[.string x.1, .string x.2] 96 (0, 0)) :: (g, .cells (fsCells fs ++ rest).toArray 96 (0, 0)) :: r)) := by
  have hb := hS.own.tail.head
  have hx := hS.own.head
  have hcm := fsCells_name fs m f hf
  have hlen := fsCells_len fs
  have hm := (List.getElem?_eq_some_iff.1 hf).1
  refine ⟨?_, ?_, cells_get hx 0, cells_get hx 1, hid hS⟩
  · rw [cells_get hb, List.getElem?_toArray, List.getElem?_append_left (by omega), Nat.mul_comm, hcm.1]
  · rw [cells_get hb, List.getElem?_toArray, List.getElem?_append_left (by omega), Nat.mul_comm, hcm.2]

/-- byName as a value. -/
def byName : Value := .func (.func 188) #[] #[]

set_option maxRecDepth 100000 in
set_option maxHeartbeats 2000000 in
theorem search_any {w0 w : World} {l r : Hp} {g cap : Nat} {fs : Fs} {rest : List Value} (hS : Step w0 l w ((g, .cells (fsCells fs ++ rest).toArray 96 (0, 0)) :: r)) (hr : Rise fs) (hB : fs.length ≤ 1048576) (x : ByteArray × ByteArray) :
    Calls Tryz.prog 229 #[.slice (some ⟨g, 0, none⟩) fs.length cap, fval x, byName] w fun e w' =>
      e = .returned (.tuple #[.int .i64 (pos fs x.1), .bool (has fs x.1)]) ∧ Step w0 l w' ((g, .cells (fsCells fs ++ rest).toArray 96 (0, 0)) :: r) := by
  go_enter Tryz.func229, Tryz.ntmps229
  unfold fval byName
  replace hS := hid hS
  go_wp2_with fail
  have S1 := hS.out.alloc (.cells #[.string x.1, .string x.2] 96)
  generalize hw1 : w.alloc (.cells #[.string x.1, .string x.2] 96) = w1 at S1 ⊢
  generalize w.heap.size = xb at S1 ⊢
  clear hw1 hS
  replace S1 := hid S1
  go_loopw [9, 10] (fun c d wr => ∃ lo hi : Nat, c = .int .i64 lo ∧ d = .int .i64 hi ∧ Hid (Seek fs x.1 lo hi) ∧ Hid (Step w0 l wr ((xb, .cells #[.string x.1, .string x.2] 96 (0, 0)) :: (g, .cells (fsCells fs ++ rest).toArray 96 (0, 0)) :: r))) (fun c d wr => (intOf d - intOf c).toNat)
  case atStart => exact ⟨0, fs.length, rfl, rfl, hid (Seek.start _ _), S1⟩
  case round =>
    obtain ⟨lo, hi, rfl, rfl, hseek, hS2⟩ := hrel
    have htop := hseek.out.top
    have hle := hseek.out.le
    by_cases h : lo < hi
    · obtain ⟨m, hm, hmi⟩ : ∃ m : Nat, (lo ≤ m ∧ m < hi) ∧ ((lo : Int) + (hi : Int)) / 2 = (m : Int) := ⟨(lo + hi) / 2, by omega, by omega⟩
      obtain ⟨f, hf⟩ : ∃ f : ByteArray × ByteArray, fs[m]? = some f := ⟨fs[m]'(by omega), List.getElem?_eq_getElem _⟩
      have hb := hS2.out.own.tail.head
      have hx := hS2.out.own.head
      have hcm := fsCells_name fs m f hf
      have hlen := fsCells_len fs
      have b0 : wr.cell? ⟨g, m * 2, none⟩ = some (.string f.1) := by
        rw [cells_get hb, List.getElem?_toArray, List.getElem?_append_left (by omega), Nat.mul_comm, hcm.1]
      have b1 : wr.cell? ⟨g, m * 2 + 1, none⟩ = some (.string f.2) := by
        rw [cells_get hb, List.getElem?_toArray, List.getElem?_append_left (by omega), Nat.mul_comm, hcm.2]
      have x0 : wr.cell? ⟨xb, 0, none⟩ = some (.string x.1) := cells_get hx 0
      have x1 : wr.cell? ⟨xb, 1, none⟩ = some (.string x.2) := cells_get hx 1
      have hml : m < fs.length := by omega
      have hcall := hid (byname_any hS2.out.drew f x)
      clear hb hx hcm hlen
      replace hf := hid hf
      by_cases hc : ncmp f.1 x.1 < 0
      · go_wp2_with fail
        go_still_tail 6, (by kernel_rfl)
        go_wp2_with (go_at_call 188; refine hcall.out.mono ?_)
        rintro e w2 ⟨rfl, S3⟩
        replace S3 := hid S3
        clear b0 b1 x0 x1 hcall
        go_wp2_with fail
        go_roundw
        case rel => exact ⟨m + 1, hi, rfl, rfl, hid (hseek.out.up hr hm.2 hf.out hc), S3⟩
        case measure => simp [intOf]; omega
      · go_wp2_with fail
        go_still_tail 6, (by kernel_rfl)
        go_wp2_with (go_at_call 188; refine hcall.out.mono ?_)
        rintro e w2 ⟨rfl, S3⟩
        replace S3 := hid S3
        clear b0 b1 x0 x1 hcall
        go_wp2_with fail
        go_roundw
        case rel => exact ⟨lo, m, rfl, rfl, hid (hseek.out.down hr hm.1 hm.2 hf.out (by omega)), S3⟩
        case measure => simp [intOf]; omega
    · obtain rfl : lo = hi := by omega
      have hpos := hid hseek.out.done
      by_cases hk : lo < fs.length
      · obtain ⟨f, hf⟩ : ∃ f : ByteArray × ByteArray, fs[lo]? = some f := ⟨fs[lo]'(by omega), List.getElem?_eq_getElem _⟩
        obtain ⟨b0, b1, x0, x1, _⟩ := seek_cells hS2.out hf
        replace hf := hid hf
        have hans : Hid (has fs x.1 = (ncmp f.1 x.1 == 0)) := hid (by unfold has; rw [hpos.out, hf.out]; rfl)
        go_wp2_with fail
        go_region_held3 (fun w' => w'.cell? ⟨g, lo * 2, none⟩ = some (.string f.1) ∧ w'.cell? ⟨g, lo * 2 + 1, none⟩ = some (.string f.2) ∧ w'.cell? ⟨xb, 0, none⟩ = some (.string x.1) ∧ w'.cell? ⟨xb, 1, none⟩ = some (.string x.2) ∧ Hid (Step w0 l w' ((xb, .cells #[.string x.1, .string x.2] 96 (0, 0)) :: (g, .cells (fsCells fs ++ rest).toArray 96 (0, 0)) :: r)))
          (first | (exact seek_cells hS2.out.drew hf.out) | (exact seek_cells (by assumption) hf.out))
          (first | (go_at_call 188; refine (byname_any hS2.out.drew f x).mono ?_; rintro e w2 ⟨rfl, S3⟩))
        go_wp2_with fail
        go_ret2
        rw [hpos.out, hans.out]
        exact ⟨rfl, S3.less (List.sublist_cons_self _ _)⟩
      · have hans : Hid (has fs x.1 = false) := hid (by unfold has; rw [hpos.out, List.getElem?_eq_none (by omega)]; rfl)
        go_wp2_with fail
        go_quiet (fail)
        go_wp2_with fail
        go_ret2
        rw [hpos.out, hans.out]
        exact ⟨rfl, (hS2.out.drewN _).less (List.sublist_cons_self _ _)⟩

end Go.Proofs.YthfngplckbggpaaGreatDoor

namespace Go.Proofs.YthfngplckbggpaaGreatDoor
open Go Go.RowKit

set_option maxRecDepth 100000 in
set_option maxHeartbeats 1000000 in
theorem search_nil {w0 w : World} {l r : Hp} (hS : Step w0 l w r) (x : ByteArray × ByteArray) :
    Calls Tryz.prog 229 #[.slice none 0 0, fval x, byName] w fun e w' =>
      e = .returned (.tuple #[.int .i64 0, .bool false]) ∧ Step w0 l w' r := by
  replace hS := hid hS
  go_enter Tryz.func229, Tryz.ntmps229
  unfold fval byName
  go_wp2_with fail
  refine wp_loop_rounds 1 ?_
  rw [rounds_succ]
  go_wp2_with fail
  go_quiet (fail)
  go_wp2_with fail
  go_ret2
  exact ⟨rfl, ((hS.out.alloc _).drewN _).less (List.sublist_cons_self _ _)⟩

theorem IsFields.shape {v : Value} {fs : Fs} {l : Hp} (h : IsFields v fs l) : ∃ a c, v = .slice a fs.length c := by
  obtain ⟨h, _⟩ := h
  generalize fs.length = n at h ⊢
  generalize fsCells fs = xs at h
  cases h with
  | nil => exact ⟨_, _, rfl⟩
  | laid g n cap xs rest hx hr hn hc => exact ⟨_, _, rfl⟩

/-- An item as a value. -/
def itemVal (kind : Int) (text : ByteArray) (v : Value) : Value := .agg #[.int .i64 kind, .string text, v]

theorem IsFields.none {v : Value} {l : Hp} (h : IsFields v [] l) : v = .slice none 0 0 := h.nil rfl

theorem search_fields {w0 w : World} {l r sl : Hp} {v : Value} {fs : Fs} (hS : Step w0 l w (sl ++ r)) (hat : IsFields v fs sl) (hr : Rise fs) (hB : fs.length ≤ 1048576) (x : ByteArray × ByteArray) :
    Calls Tryz.prog 229 #[v, fval x, byName] w fun e w' =>
      e = .returned (.tuple #[.int .i64 (pos fs x.1), .bool (has fs x.1)]) ∧ Step w0 l w' (sl ++ r) := by
  by_cases hz : fs = []
  · subst hz
    obtain rfl := hat.nil rfl
    exact search_nil hS x
  · have hn : 0 < fs.length := List.length_pos_iff.2 hz
    obtain ⟨g, cap, rest, rfl, hc, hc2, rfl, hrest⟩ := hat.sl.view hn
    exact search_any hS hr hB x

set_option maxRecDepth 100000 in
set_option maxHeartbeats 1000000 in
theorem itat_any {w0 w : World} {l r sl : Hp} {v : Value} {fs : Fs} {kind : Int} {text : ByteArray} (hS : Step w0 l w (sl ++ r)) (hat : IsFields v fs sl) (hr : Rise fs) (hB : fs.length ≤ 1048576) (name : ByteArray) :
    Calls Tryz.prog 205 #[itemVal kind text v, .string name] w fun e w' =>
      e = .returned (.tuple #[.int .i64 (pos fs name), .bool (has fs name)]) ∧ Step w0 l w' (sl ++ r) := by
  obtain ⟨a, c, rfl⟩ := hat.shape
  have S1 := hS.alloc (.cells #[.int .i64 kind, .string text, .slice a fs.length c] 62)
  have hcall := hid (search_fields (S1.less (List.sublist_cons_self _ _)) hat hr hB (name, ByteArray.empty))
  unfold fval byName at hcall
  clear hS hat hr S1
  go_enter Tryz.func205, Tryz.ntmps205
  unfold itemVal
  go_wp2_with fail
  refine hcall.out.mono ?_
  rintro e w2 ⟨rfl, S3⟩
  replace S3 := hid S3
  clear hcall
  go_wp2_with fail
  go_ret2
  exact ⟨rfl, S3.out⟩

set_option maxRecDepth 100000 in
theorem field_any {w0 w : World} {l r : Hp} (hS : Step w0 l w r) (f : ByteArray × ByteArray) :
    Calls Tryz.prog 187 #[fval f] w fun e w' => e = .returned (.bool (decide (f.1.size ≤ 512) && decide (f.2.size ≤ 4096))) ∧ Step w0 l w' r := by
  replace hS := hid hS
  have hfin := hid ((hS.out.alloc (.cells #[.string f.1, .string f.2] 96)).less (List.sublist_cons_self _ _))
  by_cases h1 : (f.1.size : Int) ≤ 512
  · by_cases h2 : (f.2.size : Int) ≤ 4096
    · have e : Hid ((decide (f.1.size ≤ 512) && decide (f.2.size ≤ 4096)) = true) := hid (by simp; omega)
      go_enter Tryz.func187, Tryz.ntmps187
      unfold fval
      go_wp2_with fail
      go_ret
      rw [e.out]
      exact ⟨rfl, hfin.out⟩
    · have e : Hid ((decide (f.1.size ≤ 512) && decide (f.2.size ≤ 4096)) = false) := hid (by simp; omega)
      go_enter Tryz.func187, Tryz.ntmps187
      unfold fval
      go_wp2_with fail
      go_ret
      rw [e.out]
      exact ⟨rfl, hfin.out⟩
  · have e : Hid ((decide (f.1.size ≤ 512) && decide (f.2.size ≤ 4096)) = false) := hid (by simp; omega)
    go_enter Tryz.func187, Tryz.ntmps187
    unfold fval
    go_wp2_with fail
    go_ret
    rw [e.out]
    exact ⟨rfl, hfin.out⟩

end Go.Proofs.YthfngplckbggpaaGreatDoor
