/-
  (*Table).Put: a key has a number.
  Maps keyed by texts, as lists of pairs: what a look-up, a store, a delete and len do.
  (*link).out and (*Recent).last: what they store.
  recent: keys in the order of their use, as a ring of links with a map: New, Touch, Drop, Oldest.
-/
import Derived.Test.YthfngplckbggpaaGreatDoorP03
import Derived.Test.YthfngplckbggpaaGreatDoorP01
import Derived.Test.YthfngplckbggpaaGreatDoorProg
import Derived.StillTailTactics
set_option linter.unusedVariables false
set_option linter.unusedSimpArgs false
namespace Go.Proofs.YthfngplckbggpaaGreatDoor
open Go Go.RowKit

def PutPost (l : Hp) (b : Nat) (M : KV) (key : ByteArray) (n : Int) (w : World) (e : Ending) (w' : World) : Prop :=
  e = .returned (.bool (look M key).isNone) ∧ ∃ l', IsTable l' b ((key, n) :: without M key) 0 ∧ Step w l w' l'
theorem PutPost.mk {l l' : Hp} {b : Nat} {M : KV} {key : ByteArray} {n : Int} {w w' : World} {is : Bool} (hi : (look M key).isNone = is) (h : IsTable l' b ((key, n) :: without M key) 0) (hs : Step w l w' l') :
    PutPost l b M key n w (.returned (.bool is)) w' := by subst hi; exact ⟨rfl, l', h, hs⟩

theorem plCells_setN (ps : List Pl) (i : Nat) (n : Int) (hi : i < ps.length) : (plCells ps).toArray.setIfInBounds (i * 3 + 2) (.int .i64 n) = (plCells (ps.set i ⟨(plAt ps i).st, (plAt ps i).key, n⟩)).toArray := by
  have h := plCells_set ps i ⟨(plAt ps i).st, (plAt ps i).key, n⟩ hi
  rw [← h]
  have hl := plCells_len ps
  have e0 := plCells_get ps i 0 (by omega)
  have e1 := plCells_get ps i 1 (by omega)
  rw [if_pos hi] at e0 e1
  congr 1
  simp only [List.setIfInBounds_toArray]
  congr 1
  apply List.ext_getElem?
  intro m
  simp only [List.getElem?_set, List.length_set]
  by_cases h1 : i * 3 + 1 = m
  · subst h1
    rw [if_pos rfl, if_pos (by omega), e1]
    rfl
  · rw [if_neg h1]
    by_cases h0 : i * 3 = m
    · subst h0
      rw [if_pos rfl, if_pos (by omega)]
      simpa [plVals] using e0
    · rw [if_neg h0]

theorem tab_setOld {w0 w : World} {l : Hp} {b po i : Nat} {pf : Option Nat} {T : Tb} {n : Int} (hS : Step w0 l w (TabHp b po pf T)) (hi : i < T.old.ps.length) :
    Step w0 l (w.setCell ⟨po, i * 3 + 2, none⟩ (.int .i64 n)) (TabHp b po pf { T with old := T.old.setN i n }) := by
  have h := hS.set2 (i * 3 + 2) (.int .i64 n)
  rw [plCells_setN _ _ _ hi] at h
  have e : TabObj po pf T = TabObj po pf { T with old := T.old.setN i n } := by simp [TabObj, tabArr, Row.setN]
  rw [e] at h
  exact h
theorem tab_setFresh {w0 w : World} {l : Hp} {b po f i : Nat} {T : Tb} {n : Int} (hS : Step w0 l w (TabHp b po (some f) T)) (hi : i < T.fresh.ps.length) :
    Step w0 l (w.setCell ⟨f, i * 3 + 2, none⟩ (.int .i64 n)) (TabHp b po (some f) { T with fresh := T.fresh.setN i n }) := by
  have h := Step.set3 (p := (b, TabObj po (some f) T)) (q := (po, PlObj T.old.ps)) hS (i * 3 + 2) (.int .i64 n)
  rw [plCells_setN _ _ _ hi] at h
  have e : TabObj po (some f) T = TabObj po (some f) { T with fresh := T.fresh.setN i n } := by simp [TabObj, tabArr, Row.setN]
  rw [e] at h
  exact h

set_option maxHeartbeats 2000000 in
theorem tput_any (l : Hp) (b : Nat) (M : KV) (key : ByteArray) (n : Int) (w : World) (hT : IsTable l b M 0) (hM : ∀ k ∈ M.map Prod.fst, k.size ≤ maxLen) (hMl : M.length ≤ 68719476736) (hk : key.size ≤ maxLen) (ho : Own w l) :
    Calls Tryz.prog 150 #[.pointer (some ⟨b, 0, none⟩), .string key, .int .i64 n] w (PutPost l b M key n w) := by
  have hstep := hid (tstep_any l b M w hT hM ho)
  clear hT hM ho
  go_enter Tryz.func150, Tryz.ntmps150
  go_wp2_with fail
  refine hstep.out.mono ?_
  rintro e w1 ⟨rfl, l1, hT1, S1⟩
  obtain ⟨T, po, pf, hok, hmv, rfl⟩ := hT1
  have hat := hid (at_any b po pf T M 4 key w1 hok hmv hk S1.own)
  replace S1 := hid S1
  replace hmv := hid hmv
  go_wp2_with fail
  refine hat.out.mono ?_
  rintro e w2 ⟨⟨nd, rfl⟩, v, i, rfl, hv⟩
  cases hv with
  | fresh i hm hi h1 hke =>
    have hl := hok.memFresh hi h1
    have hfin := hok.setFresh (n := n) hm hi h1
    rw [hke] at hl hfin
    have hpf : ∃ f, pf = some f := by have := hmv.out; rw [hm] at this; exact Option.isSome_iff_exists.1 this.symm
    obtain ⟨f, rfl⟩ := hpf
    have c3 := (tabCells S1.out.own.head).c3
    have hpl : PlacesAt w1 f T.fresh.ps := S1.out.own.tail.tail.head
    have p2 := hpl.n hi
    have g2 : w1.frozen? ⟨f, i * 3 + 2, none⟩ = false := cells_free hpl _
    have hB := (hok.busy hm).2.2.1
    simp only [slcV] at c3
    have hset := hid (tab_setFresh (n := n) (S1.out.drewN nd) hi)
    replace hl := hid hl
    replace hfin := hid hfin
    clear hat hm h1 hke hpl hok
    go_wp2_with fail
    go_ret
    exact .mk (by rw [hl.out]; rfl) ⟨_, po, some f, hfin.out.weak (Nat.zero_le _), hmv.out, rfl⟩ hset.out
  | old i hi h1 hke =>
    have hl := hok.memOld hi h1
    have hfin := hok.setOld (n := n) hi h1
    rw [hke] at hl hfin
    have c0 := (tabCells S1.out.own.head).c0
    have hpl : PlacesAt w1 po T.old.ps := S1.out.own.tail.head
    have p2 := hpl.n hi
    have g2 : w1.frozen? ⟨po, i * 3 + 2, none⟩ = false := cells_free hpl _
    have hB := hok.lenB
    have hset := hid (tab_setOld (n := n) (S1.out.drewN nd) hi)
    replace hl := hid hl
    replace hfin := hid hfin
    clear hat h1 hke hpl hok
    go_wp2_with fail
    go_ret
    exact .mk (by rw [hl.out]; rfl) ⟨_, po, pf, hfin.out.weak (Nat.zero_le _), hmv.out, rfl⟩ hset.out
  | none hno hnf =>
    have hl := hok.noneAt hno hnf
    have hw := without_none hl
    have hnk := look_none.1 hl
    have hg := hid (grow_any b po pf T M (w1.drewN nd) hok hmv.out hMl (S1.out.drewN nd).own)
    have hpost : Hid (∀ w' l', IsTable l' b ((key, n) :: M) 0 → Step w l w' l' → PutPost l b M key n w (.returned (.bool true)) w') := fun w' l' h1 h2 => .mk (by rw [hl]; rfl) (by rw [hw]; exact h1) h2
    replace hl := hid hl
    replace hnk := hid hnk
    clear hat hw
    have hok' := hid hok
    clear hok
    replace hno := hid hno
    replace hnf := hid hnf
    go_wp2_with fail
    refine hg.out.mono ?_
    rintro e w3 ⟨rfl, pf', T', S3, hok3, hmv3, hold, hfit, hmo, hsame, hnew⟩
    have S4 := (S1.out.drewN nd).trans S3
    have c6 := (tabCells S4.own.head).c6
    clear hg hmo
    replace S4 := hid S4
    cases hm : T'.moving with
    | true =>
      rw [hm] at c6
      obtain ⟨f, rfl⟩ : ∃ f, pf' = some f := by rw [hm] at hmv3; exact Option.isSome_iff_exists.1 hmv3.symm
      have hfree : Absent T'.fresh.ps key := by
        intro i p hp hs hke
        have := hok3.memFresh (List.getElem?_eq_some_iff.1 hp).1 (by rw [plAt_of hp]; exact hs)
        rw [plAt_of hp, hke, hl.out] at this
        cases this
      have hB := (hok3.busy hm).2.2.1
      have h8 := (hok3.busy hm).2.1
      have hfd := findRow_ok hashNat T'.fresh.ps key hok3.fresh.ok (by omega)
      cases hr : findRow hashNat T'.fresh.ps key with
      | mk r1 r2 =>
      rw [hr] at hfd
      cases r2 with
      | true =>
        obtain ⟨i', _, hi', hs', hk'⟩ := hfd.yes rfl
        exact absurd hk' (hfree i' _ (at_plAt hi') hs')
      | false =>
      obtain ⟨i', hi', hpp⟩ := hfd.place rfl (hok3.room hm)
      simp only at hi'
      subst hi'
      have hput := hid (put_fresh b po f i' T' key n w3 S4.out (r := []) (by simp) hk hB hok3.fresh hr hpp)
      have hfin := hid (hok3.putFresh (n := n) hm hnk.out hpp)
      have hmt := hid hm
      clear hok3 hm hB h8 hfd hr hpp hfree hmv3 hold hfit hsame hnew S3
      go_wp2_with fail
      refine hput.out.mono ?_
      rintro e w5 ⟨rfl, S5⟩
      replace S5 := hid S5
      go_wp2_with fail
      go_ret
      exact hpost.out _ _ ⟨_, po, some f, hfin.out, hmt.out, rfl⟩ (by simpa using S5.out)
    | false =>
      rw [hm] at c6
      obtain rfl : pf' = none := by rw [hm] at hmv3; cases pf' with | none => rfl | some f => cases hmv3
      have hfree : Absent T'.old.ps key := by
        intro i p hp hs hke
        have := hok3.memOld (List.getElem?_eq_some_iff.1 hp).1 (by rw [plAt_of hp]; exact hs)
        rw [plAt_of hp, hke, hl.out] at this
        cases this
      have hB := hok3.lenB
      have h8 := hok3.len
      have hfd := findRow_ok hashNat T'.old.ps key hok3.old.ok (by omega)
      cases hr : findRow hashNat T'.old.ps key with
      | mk r1 r2 =>
      rw [hr] at hfd
      cases r2 with
      | true =>
        obtain ⟨i', _, hi', hs', hk'⟩ := hfd.yes rfl
        exact absurd hk' (hfree i' _ (at_plAt hi') hs')
      | false =>
      obtain ⟨i', hi', hpp⟩ := hfd.place rfl (hok3.roomOld (by rw [hold]; exact hfit hm))
      simp only at hi'
      subst hi'
      have hput := hid (put_old b po i' none T' key n w3 S4.out (r := []) (by simp) hk hB hok3.old hr hpp)
      have hfin := hid (hok3.putOld (n := n) (c' := 0) hm hnk.out hpp)
      have hmt := hid hm
      clear hok3 hm hB h8 hfd hr hpp hfree hmv3 hold hfit hsame hnew S3
      go_wp2_with fail
      refine hput.out.mono ?_
      rintro e w5 ⟨rfl, S5⟩
      replace S5 := hid S5
      go_wp2_with fail
      go_ret
      exact hpost.out _ _ ⟨_, po, none, hfin.out, hmt.out, rfl⟩ (by simpa using S5.out)
end Go.Proofs.YthfngplckbggpaaGreatDoor

namespace Go.Proofs.YthfngplckbggpaaGreatDoor
open Go Go.RowKit

theorem bytes_beq (a b : ByteArray) : (a == b) = decide (a = b) := by
  rw [Bool.eq_iff_iff, decide_eq_true_iff]
  constructor
  · intro h
    cases a; cases b
    have h' : ((_ : Array UInt8) == _) = true := h
    congr 1
    exact beq_iff_eq.1 h'
  · rintro rfl
    cases a
    show ((_ : Array UInt8) == _) = true
    simp

abbrev AL (α : Type) := List (ByteArray × α)
def mlook {α : Type} (m : AL α) (k : ByteArray) : Option α := (m.find? (fun p => decide (p.1 = k))).map Prod.snd
def mdel {α : Type} (m : AL α) (k : ByteArray) : AL α := m.filter (fun p => decide (p.1 ≠ k))
def mset {α : Type} (m : AL α) (k : ByteArray) (v : α) : AL α := m.map (fun p => if p.1 = k then (k, v) else p)
def mput {α : Type} (m : AL α) (k : ByteArray) (v : α) : AL α := if (mlook m k).isSome then mset m k v else m ++ [(k, v)]

def StrMap (o : Obj) (m : AL Value) : Prop := ∃ es clock, o = .map es clock ∧ es.toList.map (fun e => (e.key, e.val)) = m.map (fun p => (Value.string p.1, p.2))

theorem StrMap.empty : StrMap (.map #[] 0) [] := ⟨_, _, rfl, rfl⟩

theorem findNow_str (k : ByteArray) : ∀ (es : List MapEntry) (m : AL Value) (i : Nat), es.map (fun e => (e.key, e.val)) = m.map (fun p => (Value.string p.1, p.2)) →
    Instr.findNow .string (.string k) es i = some ((m.findIdx? (fun p => decide (p.1 = k))).bind fun j => (m[j]?).map fun p => (i + j, p.2))
  | [], m, i, h => by
    cases m with
    | nil => rfl
    | cons p m => simp at h
  | e :: es, m, i, h => by
    cases m with
    | nil => simp at h
    | cons p m =>
      simp only [List.map_cons, List.cons.injEq, Prod.mk.injEq] at h
      obtain ⟨⟨h1, h2⟩, h3⟩ := h
      have ih := findNow_str k es m (i + 1) h3
      simp only [Instr.findNow, h1, Instr.sameNow, bytes_beq]
      by_cases hk : k = p.1
      · subst hk
        simp [List.findIdx?_cons, h2]
      · have hk' : ¬ p.1 = k := fun e => hk e.symm
        rw [decide_eq_false hk]
        simp only [ih, List.findIdx?_cons, decide_eq_false hk', Option.bind_map]
        simp only [Bool.false_eq_true, if_false, Option.bind_map, Function.comp_def, List.getElem?_cons_succ]
        congr 1
        congr 1
        funext j
        congr 1
        funext q
        congr 1
        omega

theorem findIdx_look {m : AL Value} {k : ByteArray} : ((m.findIdx? (fun p => decide (p.1 = k))).bind fun j => (m[j]?).map fun p => p.2) = mlook m k := by
  induction m with
  | nil => rfl
  | cons p m ih =>
    simp only [List.findIdx?_cons, mlook, List.find?_cons] at ih ⊢
    by_cases hk : p.1 = k
    · simp [hk]
    · simp [hk, Option.bind_map, Function.comp_def] at ih ⊢
      exact ih

section
variable {P : Program} {t k e : TypeId}

theorem run_find_str (hk : P.underlying k = some .string) {es : Array MapEntry} {m : AL Value} (h : es.toList.map (fun e => (e.key, e.val)) = m.map (fun p => (Value.string p.1, p.2))) (key : ByteArray) (w : World) :
    (Instr.findKey k (.string key) es.toList).run P w = .ok ((m.findIdx? (fun p => decide (p.1 = key))).bind fun j => (m[j]?).map fun p => (j, p.2)) w := by
  unfold Instr.findKey
  have := findNow_str key es.toList m 0 h
  simp only [Nat.zero_add] at this
  simp [run_underlying hk, this]

theorem run_check_str1 (hk : P.underlying k = some .string) (b : Bool) (n : Nat) (key : ByteArray) (w : World) : (Instr.checkKey b (n + 1) k (.string key)).run P w = .ok () w := by
  simp [Instr.checkKey, run_underlying hk]
theorem run_check_str (hk : P.underlying k = some .string) (b : Bool) (key : ByteArray) (w : World) : (Instr.checkKey b 10000 k (.string key)).run P w = .ok () w := run_check_str1 hk b 9999 key w

/-- 'v, ok := m[k]'. -/
theorem run_look (ht : P.underlying t = some (.map k e)) (hk : P.underlying k = some .string) {z : Value} (hz : ∀ w, (zeroValue e).run P w = .ok z w) {w : World} {r : Nat} {o : Obj} {m : AL Value}
    (hr : w.heap[r]? = some o) (hm : StrMap o m) (key : ByteArray) :
    (Instr.lookup t (.map (some r)) (.string key) true).run P w = .ok (.tuple #[(mlook m key).getD z, .bool (mlook m key).isSome]) w := by
  obtain ⟨es, clock, rfl, h⟩ := hm
  have hg : (Sem.getObj r Sem.pure).run P w = .ok (.map es clock) w := by simp [Sem.run, hr]
  have hl := @findIdx_look m key
  unfold Instr.lookup
  simp only [Sem.run_bind, run_underlying ht, Result.andThen_ok, Sem.run_pure]
  rw [show (getObj r : Sem Obj) = Sem.getObj r Sem.pure from rfl, hg]
  simp only [Sem.run_bind, Result.andThen_ok, Sem.run_pure, run_check_str hk, run_find_str hk h]
  cases hf : (m.findIdx? (fun p => decide (p.1 = key))) with
  | none =>
    rw [hf] at hl
    simp only [Option.bind_none] at hl ⊢
    simp [hz, ← hl]
  | some j =>
    rw [hf] at hl
    simp only [Option.bind_some] at hl ⊢
    have hj : j < m.length := (List.findIdx?_eq_some_iff_getElem.1 hf).1
    rw [List.getElem?_eq_getElem hj] at hl ⊢
    simp only [Option.map_some] at hl ⊢
    simp [← hl]
/-- 'v := m[k]'. -/
theorem run_look1 (ht : P.underlying t = some (.map k e)) (hk : P.underlying k = some .string) {z : Value} (hz : ∀ w, (zeroValue e).run P w = .ok z w) {w : World} {r : Nat} {o : Obj} {m : AL Value}
    (hr : w.heap[r]? = some o) (hm : StrMap o m) (key : ByteArray) :
    (Instr.lookup t (.map (some r)) (.string key) false).run P w = .ok ((mlook m key).getD z) w := by
  obtain ⟨es, clock, rfl, h⟩ := hm
  have hg : (Sem.getObj r Sem.pure).run P w = .ok (.map es clock) w := by simp [Sem.run, hr]
  have hl := @findIdx_look m key
  unfold Instr.lookup
  simp only [Sem.run_bind, run_underlying ht, Result.andThen_ok, Sem.run_pure]
  rw [show (getObj r : Sem Obj) = Sem.getObj r Sem.pure from rfl, hg]
  simp only [Sem.run_bind, Result.andThen_ok, Sem.run_pure, run_check_str hk, run_find_str hk h]
  cases hf : (m.findIdx? (fun p => decide (p.1 = key))) with
  | none =>
    rw [hf] at hl
    simp only [Option.bind_none] at hl ⊢
    simp [hz, ← hl]
  | some j =>
    rw [hf] at hl
    simp only [Option.bind_some] at hl ⊢
    have hj : j < m.length := (List.findIdx?_eq_some_iff_getElem.1 hf).1
    rw [List.getElem?_eq_getElem hj] at hl ⊢
    simp only [Option.map_some] at hl ⊢
    simp [← hl]
theorem sameBits_str1 (n : Nat) (a : ByteArray) : Instr.sameBits (n + 1) (.string a) (.string a) = true := by
  simp [Instr.sameBits, bytes_beq]
theorem sameBits_str (a : ByteArray) : Instr.sameBits 10000 (.string a) (.string a) = true := sameBits_str1 9999 a

theorem findIdx_none {m : AL Value} {key : ByteArray} (h : m.findIdx? (fun p => decide (p.1 = key)) = none) : mlook m key = none := by
  rw [← findIdx_look, h]; rfl
theorem findIdx_some {m : AL Value} {key : ByteArray} {j : Nat} (h : m.findIdx? (fun p => decide (p.1 = key)) = some j) : ∃ hj : j < m.length, mlook m key = some (m[j]).2 ∧ (m[j]).1 = key := by
  obtain ⟨hj, h1, _⟩ := List.findIdx?_eq_some_iff_getElem.1 h
  exact ⟨hj, by rw [← findIdx_look, h]; simp [List.getElem?_eq_getElem hj], by simpa using h1⟩

/-- Where no key stands twice, a store into an entry is a store at its place. -/
theorem mset_at {α : Type} {m : AL α} {key : ByteArray} {v : α} {j : Nat} (hn : (m.map Prod.fst).Nodup) (hj : j < m.length) (hk : (m[j]).1 = key) : mset m key v = m.set j (key, v) := by
  apply List.ext_getElem?
  intro i
  simp only [mset, List.getElem?_map, List.getElem?_set]
  by_cases hij : j = i
  · subst hij
    simp [hj, hk]
  · rw [if_neg hij]
    cases hi : m[i]? with
    | none => rfl
    | some p =>
      have hil := (List.getElem?_eq_some_iff.1 hi).1
      have : p.1 ≠ key := by
        intro e
        have h1 : (m.map Prod.fst)[i]? = (m.map Prod.fst)[j]? := by simp [hi, e, List.getElem?_eq_getElem hj, hk]
        exact hij ((List.getElem?_inj (by simpa using hil) hn).1 h1).symm
      simp [this]
theorem mdel_at {α : Type} {m : AL α} {key : ByteArray} {j : Nat} (hn : (m.map Prod.fst).Nodup) (hj : j < m.length) (hk : (m[j]).1 = key) : mdel m key = m.eraseIdx j := by
  induction m generalizing j with
  | nil => simp at hj
  | cons p m ih =>
    simp only [List.map_cons, List.nodup_cons] at hn
    cases j with
    | zero =>
      simp only [List.getElem_cons_zero] at hk
      simp only [mdel, List.eraseIdx_cons_zero, List.filter_cons, hk]
      simp only [ne_eq, not_true, decide_false, Bool.false_eq_true, if_false]
      rw [List.filter_eq_self]
      intro q hq
      have : q.1 ≠ key := fun e => hn.1 (List.mem_map.2 ⟨q, hq, e.trans hk.symm⟩)
      simpa using this
    | succ j =>
      simp only [List.getElem_cons_succ, List.length_cons] at hk hj
      have hp : p.1 ≠ key := fun e => hn.1 (List.mem_map.2 ⟨_, List.getElem_mem (by omega : j < m.length), hk.trans e.symm⟩)
      simp only [mdel, List.eraseIdx_cons_succ, List.filter_cons]
      simp only [ne_eq, hp, not_false_eq_true, decide_true, if_true]
      congr 1
      exact ih hn.2 (by omega) hk
theorem mdel_none {α : Type} {m : AL α} {key : ByteArray} (h : mlook m key = none) : mdel m key = m := by
  rw [mdel, List.filter_eq_self]
  intro p hp
  simp only [mlook, Option.map_eq_none_iff, List.find?_eq_none] at h
  have := h p hp
  simpa using this

theorem map_eraseIdx' {α β : Type} (f : α → β) : ∀ (l : List α) (i : Nat), (l.eraseIdx i).map f = (l.map f).eraseIdx i
  | [], _ => rfl
  | a :: l, 0 => rfl
  | a :: l, i + 1 => by simp [map_eraseIdx' f l i]
theorem heap_setObj {w : World} {r : Nat} {o o' : Obj} (hr : w.heap[r]? = some o) : (w.heap.setIfInBounds r o')[r]? = some o' := by
  have := (Array.getElem?_eq_some_iff.1 hr).1
  simp [this]

theorem Step.obj {w0 w w2 : World} {l l' : Hp} {r : Nat} {o o' : Obj} (h : Step w0 l w ((r, o) :: l')) (hw : w2 = { w with heap := w.heap.setIfInBounds r o' }) : Step w0 l w2 ((r, o') :: l') := by
  subst hw
  exact h.put (by simp) (heap_setObj h.own.head) (fun k hk => by simp [Array.getElem?_setIfInBounds, Ne.symm hk]) rfl rfl

/-- 'm[k] = v'. -/
theorem run_put (ht : P.underlying t = some (.map k e)) (hk : P.underlying k = some .string) {w : World} {r : Nat} {o : Obj} {m : AL Value}
    (hr : w.heap[r]? = some o) (hm : StrMap o m) (hn : (m.map Prod.fst).Nodup) (key : ByteArray) (v : Value) :
    ∃ o', (Instr.mapUpdate t (.map (some r)) (.string key) v).run P w = .ok () { w with heap := w.heap.setIfInBounds r o' } ∧ StrMap o' (mput m key v) := by
  obtain ⟨es, clock, rfl, h⟩ := hm
  have hg : (Sem.getObj r Sem.pure).run P w = .ok (.map es clock) w := by simp [Sem.run, hr]
  have hlen : es.size = m.length := by have := congrArg List.length h; simpa using this
  have hset : ∀ o', (setObj r o' : Sem Unit).run P w = .ok () { w with heap := w.heap.setIfInBounds r o' } := by
    intro o'
    show (Sem.setObj r o' (Sem.pure ())).run P w = _
    simp [Sem.run, hr]
  cases hf : (m.findIdx? (fun p => decide (p.1 = key))) with
  | none =>
    refine ⟨.map (es.push { key := .string key, val := v, born := clock }) (clock + 1), ?_, _, _, rfl, ?_⟩
    · unfold Instr.mapUpdate
      simp only [Sem.run_bind, run_underlying ht, Result.andThen_ok, Sem.run_pure]
      rw [show (getObj r : Sem Obj) = Sem.getObj r Sem.pure from rfl, hg]
      simp only [Sem.run_bind, Result.andThen_ok, Sem.run_pure, run_check_str hk, run_find_str hk h, hf, Option.bind_none]
      exact hset _
    · rw [mput, findIdx_none hf]
      simp [h]
  | some j =>
    obtain ⟨hj, hl, hkj⟩ := findIdx_some hf
    have hje : j < es.size := by omega
    have hkey : (es[j]).key = .string key ∧ (es[j]).val = (m[j]).2 := by
      have h1 : (es.toList.map (fun e => (e.key, e.val)))[j]? = (m.map (fun p => (Value.string p.1, p.2)))[j]? := by rw [h]
      simp only [List.getElem?_map, Array.getElem?_toList, Array.getElem?_eq_getElem hje, List.getElem?_eq_getElem hj, Option.map_some, Option.some.injEq, Prod.mk.injEq] at h1
      exact ⟨h1.1.trans (by rw [hkj]), h1.2⟩
    refine ⟨.map (es.modify j fun e => { e with key := .string key, val := v }) clock, ?_, _, _, rfl, ?_⟩
    · unfold Instr.mapUpdate
      simp only [Sem.run_bind, run_underlying ht, Result.andThen_ok, Sem.run_pure]
      rw [show (getObj r : Sem Obj) = Sem.getObj r Sem.pure from rfl, hg]
      simp only [Sem.run_bind, Result.andThen_ok, Sem.run_pure, run_check_str hk, run_find_str hk h, hf, Option.bind_some, List.getElem?_eq_getElem hj, Option.map_some]
      rw [Array.getElem?_eq_getElem hje]
      simp only [Option.map_some, Option.getD_some, hkey.1, Instr.keyThatStays, sameBits_str, if_true, Sem.run_bind, Sem.run_pure, Result.andThen_ok]
      exact hset _
    · rw [mput, hl]
      simp only [Option.isSome_some, if_true, mset_at hn hj hkj]
      apply List.ext_getElem?
      intro i
      have h1 : (es.toList.map (fun e => (e.key, e.val)))[i]? = (m.map (fun p => (Value.string p.1, p.2)))[i]? := by rw [h]
      simp only [List.getElem?_map, Array.getElem?_toList, List.getElem?_set, Array.getElem?_modify] at h1 ⊢
      by_cases hij : j = i
      · subst hij
        simp [hj, hje]
      · simp only [if_neg hij]
        exact h1

/-- 'delete(m, k)'. -/
theorem run_del (ht : P.underlying t = some (.map k e)) (hk : P.underlying k = some .string) {w : World} {r : Nat} {o : Obj} {m : AL Value} (ty : TypeId)
    (hr : w.heap[r]? = some o) (hm : StrMap o m) (hn : (m.map Prod.fst).Nodup) (key : ByteArray) (t2 : TypeId) :
    ∃ o', (Builtin.delete_ #[t, t2] ty #[.map (some r), .string key]).run P w = .ok (.tuple #[]) { w with heap := w.heap.setIfInBounds r o' } ∧ StrMap o' (mdel m key) := by
  obtain ⟨es, clock, rfl, h⟩ := hm
  have hg : (Sem.getObj r Sem.pure).run P w = .ok (.map es clock) w := by simp [Sem.run, hr]
  have hlen : es.size = m.length := by have := congrArg List.length h; simpa using this
  have hset : ∀ o', (setObj r o' : Sem Unit).run P w = .ok () { w with heap := w.heap.setIfInBounds r o' } := by
    intro o'
    show (Sem.setObj r o' (Sem.pure ())).run P w = _
    simp [Sem.run, hr]
  cases hf : (m.findIdx? (fun p => decide (p.1 = key))) with
  | none =>
    refine ⟨.map es clock, ?_, _, _, rfl, ?_⟩
    · unfold Builtin.delete_
      simp only [List.getElem?_toArray, List.getElem?_cons_zero, List.getElem?_cons_succ]
      simp only [Sem.run_bind, run_underlying ht, Result.andThen_ok, Sem.run_pure]
      rw [show (getObj r : Sem Obj) = Sem.getObj r Sem.pure from rfl, hg]
      simp only [Sem.run_bind, Result.andThen_ok, Sem.run_pure, run_check_str hk, run_find_str hk h, hf, Option.bind_none, hset]
    · rw [mdel_none (findIdx_none hf)]
      exact h
  | some j =>
    obtain ⟨hj, hl, hkj⟩ := findIdx_some hf
    have hje : j < es.size := by omega
    refine ⟨.map (es.eraseIdxIfInBounds j) clock, ?_, _, _, rfl, ?_⟩
    · unfold Builtin.delete_
      simp only [List.getElem?_toArray, List.getElem?_cons_zero, List.getElem?_cons_succ]
      simp only [Sem.run_bind, run_underlying ht, Result.andThen_ok, Sem.run_pure]
      rw [show (getObj r : Sem Obj) = Sem.getObj r Sem.pure from rfl, hg]
      simp only [Sem.run_bind, Result.andThen_ok, Sem.run_pure, run_check_str hk, run_find_str hk h, hf, Option.bind_some, List.getElem?_eq_getElem hj, Option.map_some, hset]
    · rw [mdel_at hn hj hkj]
      have e1 : (es.eraseIdxIfInBounds j).toList = es.toList.eraseIdx j := by
        simp [Array.eraseIdxIfInBounds, hje]
      rw [e1, map_eraseIdx', map_eraseIdx', h]
end

theorem mput_keys {α : Type} {m : AL α} {k : ByteArray} {v : α} (hn : (m.map Prod.fst).Nodup) : ((mput m k v).map Prod.fst).Nodup := by
  unfold mput
  cases h : mlook m k with
  | some x =>
    simp only [Option.isSome_some, if_true]
    have e : (mset m k v).map Prod.fst = m.map Prod.fst := by
      simp only [mset, List.map_map]
      apply List.map_congr_left
      intro p _
      simp only [Function.comp]
      split
      · rename_i e; exact e.symm
      · rfl
    rw [e]; exact hn
  | none =>
    simp only [Option.isSome_none, Bool.false_eq_true, if_false, List.map_append, List.map_cons, List.map_nil]
    rw [List.nodup_append]
    refine ⟨hn, by simp, ?_⟩
    intro a ha b hb
    simp only [List.mem_cons, List.not_mem_nil, or_false] at hb
    subst hb
    rintro rfl
    obtain ⟨p, hp, he⟩ := List.mem_map.1 ha
    simp only [mlook, Option.map_eq_none_iff, List.find?_eq_none] at h
    exact h p hp (by simpa using he)
theorem mdel_keys {α : Type} {m : AL α} {k : ByteArray} (hn : (m.map Prod.fst).Nodup) : ((mdel m k).map Prod.fst).Nodup := (List.filter_sublist.map Prod.fst).nodup hn
end Go.Proofs.YthfngplckbggpaaGreatDoor

namespace Go.Proofs.YthfngplckbggpaaGreatDoor
open Go Go.RowKit

abbrev ptr (b : Nat) : Value := .pointer (some ⟨b, 0, none⟩)

set_option maxRecDepth 100000 in
set_option maxHeartbeats 1000000 in
theorem out_any (b p n : Nat) (x y : Value) (w : World) (h1 : w.cell? ⟨b, 1, none⟩ = some (ptr p)) (h2 : w.cell? ⟨b, 2, none⟩ = some (ptr n)) (hp : w.cell? ⟨p, 2, none⟩ = some x) (hn : w.cell? ⟨n, 1, none⟩ = some y)
    (fp : w.frozen? ⟨p, 2, none⟩ = false) (fn : w.frozen? ⟨n, 1, none⟩ = false) :
    Calls Tryz.prog 144 #[.pointer (some ⟨b, 0, none⟩)] w fun e w' => e = .returned (.tuple #[]) ∧ w' = ((w.setCell ⟨p, 2, none⟩ (ptr n)).setCell ⟨n, 1, none⟩ (ptr p)).drew := by
  go_enter Tryz.func144, Tryz.ntmps144
  go_wp2_with fail
  go_region
  all_goals go_end0
  all_goals exact ⟨rfl, rfl⟩

set_option maxRecDepth 100000 in
set_option maxHeartbeats 1000000 in
theorem last_any (rb b q : Nat) (x1 x2 y : Value) (w : World) (hne : b ≠ rb) (hnq : b ≠ q) (hb1 : w.cell? ⟨b, 1, none⟩ = some x1) (hb2 : w.cell? ⟨b, 2, none⟩ = some x2) (hr : w.cell? ⟨rb, 1, none⟩ = some (ptr q)) (hq : w.cell? ⟨q, 2, none⟩ = some y)
    (f1 : w.frozen? ⟨b, 1, none⟩ = false) (f2 : w.frozen? ⟨b, 2, none⟩ = false) (fq : w.frozen? ⟨q, 2, none⟩ = false) (fr : w.frozen? ⟨rb, 1, none⟩ = false) :
    Calls Tryz.prog 145 #[.pointer (some ⟨rb, 0, none⟩), .pointer (some ⟨b, 0, none⟩)] w fun e w' => e = .returned (.tuple #[]) ∧
      w' = ((((w.setCell ⟨b, 1, none⟩ (ptr q)).setCell ⟨b, 2, none⟩ (ptr rb)).setCell ⟨q, 2, none⟩ (ptr b)).setCell ⟨rb, 1, none⟩ (ptr b)).drew.drew := by
  go_enter Tryz.func145, Tryz.ntmps145
  go_wp2_with fail
  go_region
  all_goals go_wp2_with fail
  all_goals go_region
  all_goals go_end0
  all_goals exact ⟨rfl, rfl⟩

end Go.Proofs.YthfngplckbggpaaGreatDoor

namespace Go.Proofs.YthfngplckbggpaaGreatDoor
open Go Go.RowKit

abbrev Nd := Nat × ByteArray
def hd (ns : List Nd) (r : Nat) : Nat := match ns with
  | [] => r
  | p :: _ => p.1
def lst (ns : List Nd) (r : Nat) : Nat := match ns with
  | [] => r
  | p :: ns => lst ns p.1
abbrev linkVals (k : ByteArray) (a n : Nat) : Array Value := #[.string k, ptr a, ptr n]
abbrev LinkObj (k : ByteArray) (a n : Nat) : Obj := .cells (linkVals k a n) 100 (0, 0)
def nodesHp (prev : Nat) (ns : List Nd) (fin : Nat) : Hp := match ns with
  | [] => []
  | p :: ns => (p.1, LinkObj p.2 prev (hd ns fin)) :: nodesHp p.1 ns fin
abbrev rootVals (a n mb : Nat) : Array Value := #[.string ByteArray.empty, ptr a, ptr n, .map (some mb)]
abbrev RootObj (a n mb : Nat) : Obj := .cells (rootVals a n mb) 103 (0, 0)
def RecHp (rb mb : Nat) (o : Obj) (ns : List Nd) : Hp := (rb, RootObj (lst ns rb) (hd ns rb) mb) :: (mb, o) :: nodesHp rb ns rb

def ndPtr (p : Nd) : ByteArray × Value := (p.2, ptr p.1)
def IsRecent (l : Hp) (rb : Nat) (ks : List ByteArray) : Prop :=
  ∃ mb o ns m, l = RecHp rb mb o ns ∧ ks = ns.map Prod.snd ∧ StrMap o m ∧ m.Perm (ns.map ndPtr) ∧ ks.Nodup

theorem hd_nil (r : Nat) : hd [] r = r := rfl
theorem hd_cons (p : Nd) (a : List Nd) (r : Nat) : hd (p :: a) r = p.1 := rfl
theorem lst_nil (r : Nat) : lst [] r = r := rfl
theorem lst_cons (p : Nd) (a : List Nd) (r : Nat) : lst (p :: a) r = lst a p.1 := rfl
theorem nodes_nil (x y : Nat) : nodesHp x [] y = [] := rfl
theorem nodes_cons (x y : Nat) (p : Nd) (a : List Nd) : nodesHp x (p :: a) y = (p.1, LinkObj p.2 x (hd a y)) :: nodesHp p.1 a y := rfl
theorem lst_append (a b : List Nd) (r : Nat) : lst (a ++ b) r = lst b (lst a r) := by
  induction a generalizing r with
  | nil => rfl
  | cons p a ih => exact ih p.1
theorem hd_append (a b : List Nd) (r : Nat) : hd (a ++ b) r = hd a (hd b r) := by
  cases a <;> rfl
theorem nodes_append (prev fin : Nat) (a b : List Nd) : nodesHp prev (a ++ b) fin = nodesHp prev a (hd b fin) ++ nodesHp (lst a prev) b fin := by
  induction a generalizing prev with
  | nil => rfl
  | cons p a ih => simp only [List.cons_append, nodesHp, ih, hd_append, lst]
theorem nodes_mid (prev fin : Nat) (a b : List Nd) (p : Nd) : nodesHp prev (a ++ p :: b) fin = nodesHp prev a p.1 ++ (p.1, LinkObj p.2 (lst a prev) (hd b fin)) :: nodesHp p.1 b fin := nodes_append prev fin a (p :: b)

/-- The link ahead gets another next one; the link behind gets another one ahead. -/
theorem ring_next {w0 w : World} {l c : Hp} {rb mb : Nat} {o : Obj} {a : List Nd} {x y z : Nat}
    (h : Step w0 l w ((rb, RootObj y (hd a x) mb) :: (mb, o) :: (nodesHp rb a x ++ c))) :
    Step w0 l (w.setCell ⟨lst a rb, 2, none⟩ (ptr z)) ((rb, RootObj y (hd a z) mb) :: (mb, o) :: (nodesHp rb a z ++ c)) := by
  rcases List.eq_nil_or_concat a with rfl | ⟨a, p, rfl⟩
  · exact h.set 2 (ptr z)
  · rw [List.concat_eq_append] at h ⊢
    rw [nodes_append, hd_append] at h ⊢
    rw [lst_append]
    have h2 : Step w0 l w (((rb, RootObj y (hd a p.1) mb) :: (mb, o) :: nodesHp rb a p.1) ++ (p.1, LinkObj p.2 (lst a rb) x) :: c) := by
      simpa [nodes_cons, nodes_nil, hd_cons, hd_nil] using h
    have h3 := h2.setIn 2 (ptr z)
    simpa [nodes_cons, nodes_nil, hd_cons, hd_nil, lst_cons, lst_nil] using h3
theorem ring_ahead {w0 w : World} {l c : Hp} {rb mb : Nat} {o : Obj} {b : List Nd} {x y z : Nat}
    (h : Step w0 l w ((rb, RootObj (lst b x) y mb) :: (mb, o) :: (c ++ nodesHp x b rb))) :
    Step w0 l (w.setCell ⟨hd b rb, 1, none⟩ (ptr z)) ((rb, RootObj (lst b z) y mb) :: (mb, o) :: (c ++ nodesHp z b rb)) := by
  cases b with
  | nil => exact h.set 1 (ptr z)
  | cons p b =>
    have h2 : Step w0 l w (((rb, RootObj (lst b p.1) y mb) :: (mb, o) :: c) ++ (p.1, LinkObj p.2 x (hd b rb)) :: nodesHp p.1 b rb) := by
      simpa [nodes_cons, lst_cons] using h
    have h3 := h2.setIn 1 (ptr z)
    simpa [nodes_cons, lst_cons, hd_cons] using h3

theorem ring_out {w0 w : World} {l : Hp} {rb mb : Nat} {o : Obj} {a b : List Nd} {p : Nd} (h : Step w0 l w (RecHp rb mb o (a ++ p :: b))) :
    Step w0 l ((w.setCell ⟨lst a rb, 2, none⟩ (ptr (hd b rb))).setCell ⟨hd b rb, 1, none⟩ (ptr (lst a rb))) ((p.1, LinkObj p.2 (lst a rb) (hd b rb)) :: RecHp rb mb o (a ++ b)) := by
  have e1 : RecHp rb mb o (a ++ p :: b) = (rb, RootObj (lst b p.1) (hd a p.1) mb) :: (mb, o) :: (nodesHp rb a p.1 ++ ((p.1, LinkObj p.2 (lst a rb) (hd b rb)) :: nodesHp p.1 b rb)) := by
    simp only [RecHp, nodes_mid, lst_append, hd_append, lst_cons, hd_cons]
  rw [e1] at h
  have h2 := ring_next (z := hd b rb) h
  rw [show nodesHp rb a (hd b rb) ++ ((p.1, LinkObj p.2 (lst a rb) (hd b rb)) :: nodesHp p.1 b rb) = (nodesHp rb a (hd b rb) ++ [(p.1, LinkObj p.2 (lst a rb) (hd b rb))]) ++ nodesHp p.1 b rb by simp] at h2
  have h4 := ring_ahead (z := lst a rb) h2
  refine h4.permR ?_
  have e : RecHp rb mb o (a ++ b) = (rb, RootObj (lst b (lst a rb)) (hd a (hd b rb)) mb) :: (mb, o) :: (nodesHp rb a (hd b rb) ++ nodesHp (lst a rb) b rb) := by
    simp only [RecHp, nodes_append, lst_append, hd_append]
  rw [e]
  refine List.Perm.trans ?_ (List.perm_middle (l₁ := [(rb, _), (mb, o)]))
  refine List.Perm.cons _ (List.Perm.cons _ ?_)
  rw [List.append_assoc]
  exact List.perm_middle

theorem ring_last {w0 w : World} {l : Hp} {rb mb : Nat} {o : Obj} {ns : List Nd} {b : Nat} {k : ByteArray} {x1 x2 : Value} (h : Step w0 l w ((b, .cells #[.string k, x1, x2] 100 (0, 0)) :: RecHp rb mb o ns)) :
    Step w0 l ((((w.setCell ⟨b, 1, none⟩ (ptr (lst ns rb))).setCell ⟨b, 2, none⟩ (ptr rb)).setCell ⟨lst ns rb, 2, none⟩ (ptr b)).setCell ⟨rb, 1, none⟩ (ptr b)) (RecHp rb mb o (ns ++ [(b, k)])) := by
  have h1 := (h.set 1 (ptr (lst ns rb))).set 2 (ptr rb)
  have h2 := h1.permR (l2 := (rb, RootObj (lst ns rb) (hd ns rb) mb) :: (mb, o) :: (nodesHp rb ns rb ++ [(b, LinkObj k (lst ns rb) rb)]))
    (List.Perm.trans (List.perm_append_comm (l₁ := [_]) (l₂ := (rb, RootObj (lst ns rb) (hd ns rb) mb) :: (mb, o) :: nodesHp rb ns rb)) (List.Perm.of_eq (by simp)))
  have h3 := ring_next (z := b) h2
  have h4 := h3.set 1 (ptr b)
  have e : RecHp rb mb o (ns ++ [(b, k)]) = (rb, RootObj b (hd ns b) mb) :: (mb, o) :: (nodesHp rb ns b ++ [(b, LinkObj k (lst ns rb) rb)]) := by
    simp only [RecHp, nodes_append, lst_append, hd_append, nodes_cons, nodes_nil, hd_cons, lst_cons, hd_nil, lst_nil]
  rw [e]
  exact h4

end Go.Proofs.YthfngplckbggpaaGreatDoor
