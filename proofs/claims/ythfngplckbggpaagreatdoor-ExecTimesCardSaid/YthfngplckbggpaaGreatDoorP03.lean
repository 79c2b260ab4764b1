/-
  (*Table).at: the row in which a key stands, and where; nothing is written. (*Table).Step, whether the table moves or not.
  (*Table).Get and (*Table).Drop: what a table holds of a key.
  table.made, table.New: a new table holds nothing; (*Table).Len.
  (*Table).grow and (*Table).Put.
-/
import Derived.Test.YthfngplckbggpaaGreatDoorP02
set_option linter.unusedVariables false
set_option linter.unusedSimpArgs false
namespace Go.Proofs.YthfngplckbggpaaGreatDoor
open Go Go.RowKit

theorem TabOk.idleAny {hs : ByteArray → Nat} {T : Tb} {M : KV} {c c' : Nat} (h : TabOk hs T M c) (hm : T.moving = false) : TabOk hs T M c' :=
  ⟨h.old, h.fresh, h.len, h.lenB, h.perm, h.nodup, h.idle, fun e => by rw [hm] at e; cases e⟩

set_option maxHeartbeats 400000 in
theorem tstep_any (l : Hp) (b : Nat) (M : KV) (w : World) (hT : IsTable l b M 0) (hM : ∀ k ∈ M.map Prod.fst, k.size ≤ maxLen) (ho : Own w l) :
    Calls Tryz.prog 134 #[.pointer (some ⟨b, 0, none⟩)] w fun e w' => e = .returned (.tuple #[]) ∧ ∃ l', IsTable l' b M 4 ∧ Step w l w' l' := by
  obtain ⟨T, po, pf, hok, hmv, rfl⟩ := hT
  cases pf with
  | some f => exact step_busy b po f T M w hok hmv hM ho
  | none =>
    have c6 := (tabCells ho.head).c6
    have hm : T.moving = false := hmv
    rw [hm] at c6
    have hfin := hid (hok.idleAny (c' := 4) hm)
    have hst := hid (Step.refl ho)
    replace hmv := hid hmv
    clear ho hok hm
    go_enter Tryz.func134, Tryz.ntmps134
    go_wp2_with fail
    refine bodyPost_ret (results_none rfl _ _ _) rfl ?_
    exact ⟨rfl, _, ⟨T, po, none, hfin.out, hmv.out, rfl⟩, hst.out⟩

/-- What 'at' answers. -/
inductive AtIs (b : Nat) (T : Tb) (key : ByteArray) : Value → Int → Prop where
  | fresh (i : Nat) (hm : T.moving = true) (hi : i < T.fresh.ps.length) (h1 : (plAt T.fresh.ps i).st = 1) (hk : (plAt T.fresh.ps i).key = key) : AtIs b T key (.pointer (some ⟨b, 3, none⟩)) i
  | old (i : Nat) (hi : i < T.old.ps.length) (h1 : (plAt T.old.ps i).st = 1) (hk : (plAt T.old.ps i).key = key) : AtIs b T key (.pointer (some ⟨b, 0, none⟩)) i
  | none (ho : ∀ (i : Nat) (p : Pl), T.old.ps[i]? = some p → p.st = 1 → p.key ≠ key) (hf : ∀ (i : Nat) (p : Pl), T.fresh.ps[i]? = some p → p.st = 1 → p.key ≠ key) : AtIs b T key (.pointer .none) (-1)
def AtPost (b : Nat) (T : Tb) (key : ByteArray) (w : World) (e : Ending) (w' : World) : Prop :=
  (∃ n, w' = w.drewN n) ∧ ∃ v i, e = .returned (.tuple #[v, .int .i64 i]) ∧ AtIs b T key v i
def Absent (ps : List Pl) (key : ByteArray) : Prop := ∀ (i : Nat) (p : Pl), ps[i]? = some p → p.st = 1 → p.key ≠ key

set_option maxRecDepth 100000 in
set_option maxHeartbeats 1000000 in
theorem at_any (b po : Nat) (pf : Option Nat) (T : Tb) (M : KV) (c : Nat) (key : ByteArray) (w : World) (hok : TabOk hashNat T M c) (hmv : T.moving = pf.isSome) (hk : key.size ≤ maxLen) (ho : Own w (TabHp b po pf T)) :
    Calls Tryz.prog 135 #[.pointer (some ⟨b, 0, none⟩), .string key] w (AtPost b T key w) := by
  have hc := tabCells ho.head
  have hpo : PlacesAt w po T.old.ps := ho.tail.head
  have hL := hok.len
  have hLB := hok.lenB
  have hfo := findRow_ok hashNat T.old.ps key hok.old.ok (by omega)
  have i0 : ∀ w, (Instr.index 248 (.agg #[.pointer (some ⟨b, 3, none⟩), .pointer (some ⟨b, 0, none⟩)]) (.int .i64 0)).run Tryz.prog w = .ok (.pointer (some ⟨b, 3, none⟩)) w := fun _ => by kernel_rfl
  have i1 : ∀ w, (Instr.index 248 (.agg #[.pointer (some ⟨b, 3, none⟩), .pointer (some ⟨b, 0, none⟩)]) (.int .i64 1)).run Tryz.prog w = .ok (.pointer (some ⟨b, 0, none⟩)) w := fun _ => by kernel_rfl
  have hr : ∀ n, (findRow hashNat T.old.ps key).2 = n → True := fun _ _ => trivial
  clear hr
  have c0 := hc.c0
  have c3 := hc.c3
  have hfind : ∀ n, Calls Tryz.prog 181 #[.pointer (some ⟨b, 0, none⟩), .string key] (w.drewN n) fun e w' =>
      e = .returned (.tuple #[.int .i64 (freeInt (findRow hashNat T.old.ps key).1), .bool (findRow hashNat T.old.ps key).2]) ∧ ∃ m, w' = (w.drewN n).drewN m :=
    fun n => find_any b 0 po T.old.ps key (w.drewN n) hk (by omega) hLB (by simpa using c0) (by simpa [PlacesAt] using hpo)
  replace hfind := hid hfind
  replace hpo := hid hpo
  have hpost : Hid (∀ w' v i, (∃ n, w' = w.drewN n) → AtIs b T key v i → AtPost b T key w (.returned (.tuple #[v, .int .i64 i])) w') := fun w' v i h1 h2 => ⟨h1, v, i, rfl, h2⟩
  cases pf with
  | none =>
    have hm : T.moving = false := hmv
    have hnf := (hok.idle hm).1
    have habs : Absent T.fresh.ps key := by rw [hnf]; intro i p hp; simp [noRow] at hp
    have hz : T.fresh.ps.length = 0 := by rw [hnf]; rfl
    simp only [slcV] at c3
    replace habs := hid habs
    clear hz hnf hm hmv hok ho hc
    cases hro : findRow hashNat T.old.ps key with
    | mk r1 r2 =>
    rw [hro] at hfo
    rw [hro] at hfind
    simp only at hfind
    clear hro
    cases r2 with
    | true =>
      obtain ⟨i, hi, hlt, hs1, hke⟩ := hfo.yes rfl
      simp only at hi
      subst hi
      simp only [freeInt] at hfind
      replace hlt := hid hlt
      replace hs1 := hid hs1
      replace hke := hid hke
      clear hfo
      go_enter Tryz.func135, Tryz.ntmps135
      go_wp2_with fail
      go_quiet (fail)
      go_wp2_with fail
      refine wp_loop_rounds 2 ?_
      rw [rounds_succ]
      go_wp2_with fail
      rw [rounds_succ]
      go_wp2_with fail
      refine (hfind.out _).mono ?_
      rintro e w' ⟨rfl, m, rfl⟩
      go_wp2_with fail
      go_ret2
      exact hpost.out _ _ _ ⟨_, rfl⟩ (.old i hlt.out hs1.out hke.out)
    | false =>
      have habo := hid (hfo.no rfl).1
      clear hfo
      go_enter Tryz.func135, Tryz.ntmps135
      go_wp2_with fail
      go_quiet (fail)
      go_wp2_with fail
      refine wp_loop_rounds 3 ?_
      rw [rounds_succ]
      go_wp2_with fail
      rw [rounds_succ]
      go_wp2_with fail
      refine (hfind.out _).mono ?_
      rintro e w' ⟨rfl, m, rfl⟩
      go_wp2_with fail
      rw [rounds_succ]
      go_wp2_with fail
      go_ret2
      exact hpost.out _ _ _ ⟨_, rfl⟩ (.none habo.out habs.out)
  | some f =>
    have hm : T.moving = true := hmv
    obtain ⟨a1, a2, a3, a4, a5, a6⟩ := hok.busy hm
    have hff := findRow_ok hashNat T.fresh.ps key hok.fresh.ok (by omega)
    have hpf : PlacesAt w f T.fresh.ps := ho.tail.tail.head
    simp only [slcV] at c3
    have hfindF : ∀ n, Calls Tryz.prog 181 #[.pointer (some ⟨b, 3, none⟩), .string key] (w.drewN n) fun e w' =>
      e = .returned (.tuple #[.int .i64 (freeInt (findRow hashNat T.fresh.ps key).1), .bool (findRow hashNat T.fresh.ps key).2]) ∧ ∃ m, w' = (w.drewN n).drewN m :=
      fun n => find_any b 3 f T.fresh.ps key (w.drewN n) hk (by omega) a3 (by simpa using c3) (by simpa [PlacesAt] using hpf)
    replace hfindF := hid hfindF
    have hz : ((T.fresh.ps.length : Int) == 0) = false := by rw [beq_eq_false_iff_ne]; omega
    replace hm := hid hm
    clear hmv hok ho hc a1 a4 a5 a6 hpf
    cases hro : findRow hashNat T.old.ps key with
    | mk r1 r2 =>
    rw [hro] at hfo
    rw [hro] at hfind
    simp only at hfind
    clear hro
    cases hrf : findRow hashNat T.fresh.ps key with
    | mk s1 s2 =>
    rw [hrf] at hff
    rw [hrf] at hfindF
    simp only at hfindF
    clear hrf
    cases s2 with
    | true =>
      obtain ⟨i, hi, hlt, hs1, hke⟩ := hff.yes rfl
      simp only at hi
      subst hi
      simp only [freeInt] at hfindF
      replace hlt := hid hlt
      replace hs1 := hid hs1
      replace hke := hid hke
      clear hff hfo
      go_enter Tryz.func135, Tryz.ntmps135
      go_wp2_with fail
      go_quiet (fail)
      go_wp2_with fail
      refine wp_loop_rounds 1 ?_
      rw [rounds_succ]
      go_wp2_with fail
      refine (hfindF.out _).mono ?_
      rintro e w' ⟨rfl, m, rfl⟩
      go_wp2_with fail
      go_ret2
      exact hpost.out _ _ _ ⟨_, rfl⟩ (.fresh i hm.out hlt.out hs1.out hke.out)
    | false =>
      have habf := hid (hff.no rfl).1
      clear hff
      cases r2 with
      | true =>
        obtain ⟨i, hi, hlt, hs1, hke⟩ := hfo.yes rfl
        simp only at hi
        subst hi
        simp only [freeInt] at hfind
        replace hlt := hid hlt
        replace hs1 := hid hs1
        replace hke := hid hke
        clear hfo
        go_enter Tryz.func135, Tryz.ntmps135
        go_wp2_with fail
        go_quiet (fail)
        go_wp2_with fail
        refine wp_loop_rounds 2 ?_
        rw [rounds_succ]
        go_wp2_with fail
        refine (hfindF.out _).mono ?_
        rintro e w' ⟨rfl, m, rfl⟩
        go_wp2_with fail
        rw [rounds_succ]
        go_wp2_with fail
        refine (hfind.out _).mono ?_
        rintro e w' ⟨rfl, m2, rfl⟩
        go_wp2_with fail
        go_ret2
        exact hpost.out _ _ _ ⟨_, rfl⟩ (.old i hlt.out hs1.out hke.out)
      | false =>
        have habo := hid (hfo.no rfl).1
        clear hfo
        go_enter Tryz.func135, Tryz.ntmps135
        go_wp2_with fail
        go_quiet (fail)
        go_wp2_with fail
        refine wp_loop_rounds 3 ?_
        rw [rounds_succ]
        go_wp2_with fail
        refine (hfindF.out _).mono ?_
        rintro e w' ⟨rfl, m, rfl⟩
        go_wp2_with fail
        rw [rounds_succ]
        go_wp2_with fail
        refine (hfind.out _).mono ?_
        rintro e w' ⟨rfl, m2, rfl⟩
        go_wp2_with fail
        rw [rounds_succ]
        go_wp2_with fail
        go_ret2
        exact hpost.out _ _ _ ⟨_, rfl⟩ (.none habo.out habf.out)
end Go.Proofs.YthfngplckbggpaaGreatDoor

namespace Go.Proofs.YthfngplckbggpaaGreatDoor
open Go Go.RowKit

theorem TabOk.noneAt {hs : ByteArray → Nat} {T : Tb} {M : KV} {c : Nat} {key : ByteArray} (h : TabOk hs T M c) (ho : Absent T.old.ps key) (hf : Absent T.fresh.ps key) : look M key = none :=
  look_none.2 (notin_of_absent h ho hf)
theorem without_none {M : KV} {k : ByteArray} (h : look M k = none) : without M k = M := by
  rw [without, List.filter_eq_self]
  intro p hp
  have := look_none.1 h
  have : p.1 ≠ k := fun e => this (List.mem_map.2 ⟨p, hp, e⟩)
  simpa using this
theorem without_keys {M : KV} {k x : ByteArray} (h : x ∈ (without M k).map Prod.fst) : x ∈ M.map Prod.fst := (List.filter_sublist.map Prod.fst).subset h
theorem IsTable.nodup {l : Hp} {b : Nat} {M : KV} {c : Nat} (h : IsTable l b M c) : (M.map Prod.fst).Nodup := by
  obtain ⟨T, po, pf, h1, _, _⟩ := h; exact h1.nodup

def GetPost (l : Hp) (b : Nat) (M : KV) (key : ByteArray) (w : World) (e : Ending) (w' : World) : Prop :=
  e = .returned (.tuple #[.int .i64 ((look M key).getD 0), .bool (look M key).isSome]) ∧ ∃ l', IsTable l' b M 4 ∧ Step w l w' l'
theorem GetPost.mk {l l' : Hp} {b : Nat} {M : KV} {key : ByteArray} {w w' : World} {n : Int} {is : Bool} (hl : (look M key).getD 0 = n) (hi : (look M key).isSome = is) (h : IsTable l' b M 4) (hs : Step w l w' l') :
    GetPost l b M key w (.returned (.tuple #[.int .i64 n, .bool is])) w' := by subst hl hi; exact ⟨rfl, l', h, hs⟩

set_option maxHeartbeats 1000000 in
theorem tget_any (l : Hp) (b : Nat) (M : KV) (key : ByteArray) (w : World) (hT : IsTable l b M 0) (hM : ∀ k ∈ M.map Prod.fst, k.size ≤ maxLen) (hk : key.size ≤ maxLen) (ho : Own w l) :
    Calls Tryz.prog 73 #[.pointer (some ⟨b, 0, none⟩), .string key] w (GetPost l b M key w) := by
  have hstep := hid (tstep_any l b M w hT hM ho)
  clear hT hM ho
  go_enter Tryz.func73, Tryz.ntmps73
  go_wp2_with fail
  refine hstep.out.mono ?_
  rintro e w1 ⟨rfl, l1, hT1, S1⟩
  obtain ⟨T, po, pf, hok, hmv, rfl⟩ := hT1
  have hat := hid (at_any b po pf T M 4 key w1 hok hmv hk S1.own)
  replace S1 := hid S1
  replace hmv := hid hmv
  go_wp2_with fail
  refine hat.out.mono ?_
  rintro e w2 ⟨⟨n, rfl⟩, v, i, rfl, hv⟩
  have hfin := hid (show IsTable (TabHp b po pf T) b M 4 from ⟨T, po, pf, hok, hmv.out, rfl⟩)
  cases hv with
  | fresh i hm hi h1 hke =>
    have hl := hok.memFresh hi h1
    rw [hke] at hl
    have hpf : ∃ f, pf = some f := by have := hmv.out; rw [hm] at this; exact Option.isSome_iff_exists.1 this.symm
    obtain ⟨f, rfl⟩ := hpf
    have c3 := (tabCells S1.out.own.head).c3
    have hpl : PlacesAt w1 f T.fresh.ps := S1.out.own.tail.tail.head
    have p2 := hpl.n hi
    have hB := (hok.busy hm).2.2.1
    simp only [slcV] at c3
    replace hl := hid hl
    clear hat hm h1 hke hpl hok hmv
    go_wp2_with fail
    go_ret2
    exact .mk (by rw [hl.out]; rfl) (by rw [hl.out]; rfl) hfin.out (S1.out.drewN n)
  | old i hi h1 hke =>
    have hl := hok.memOld hi h1
    rw [hke] at hl
    have c0 := (tabCells S1.out.own.head).c0
    have hpl : PlacesAt w1 po T.old.ps := S1.out.own.tail.head
    have p2 := hpl.n hi
    have hB := hok.lenB
    replace hl := hid hl
    clear hat h1 hke hpl hok hmv
    go_wp2_with fail
    go_ret2
    exact .mk (by rw [hl.out]; rfl) (by rw [hl.out]; rfl) hfin.out (S1.out.drewN n)
  | none hno hnf =>
    have hl := hid (hok.noneAt hno hnf)
    clear hat hno hnf hok hmv
    go_wp2_with fail
    go_ret2
    exact .mk (by rw [hl.out]; rfl) (by rw [hl.out]; rfl) hfin.out (S1.out.drewN n)

def DropPost (l : Hp) (b : Nat) (M : KV) (key : ByteArray) (w : World) (e : Ending) (w' : World) : Prop :=
  e = .returned (.tuple #[.int .i64 ((look M key).getD 0), .bool (look M key).isSome]) ∧ ∃ l', IsTable l' b (without M key) 0 ∧ Step w l w' l'
theorem DropPost.mk {l l' : Hp} {b : Nat} {M : KV} {key : ByteArray} {w w' : World} {n : Int} {is : Bool} (hl : (look M key).getD 0 = n) (hi : (look M key).isSome = is) (h : IsTable l' b (without M key) 0) (hs : Step w l w' l') :
    DropPost l b M key w (.returned (.tuple #[.int .i64 n, .bool is])) w' := by subst hl hi; exact ⟨rfl, l', h, hs⟩

set_option maxHeartbeats 1000000 in
theorem tdrop_any (l : Hp) (b : Nat) (M : KV) (key : ByteArray) (w : World) (hT : IsTable l b M 0) (hM : ∀ k ∈ M.map Prod.fst, k.size ≤ maxLen) (hk : key.size ≤ maxLen) (ho : Own w l) :
    Calls Tryz.prog 208 #[.pointer (some ⟨b, 0, none⟩), .string key] w (DropPost l b M key w) := by
  have hstep := hid (tstep_any l b M w hT hM ho)
  clear hT hM ho
  go_enter Tryz.func208, Tryz.ntmps208
  go_wp2_with fail
  refine hstep.out.mono ?_
  rintro e w1 ⟨rfl, l1, hT1, S1⟩
  obtain ⟨T, po, pf, hok, hmv, rfl⟩ := hT1
  have hat := hid (at_any b po pf T M 4 key w1 hok hmv hk S1.own)
  replace S1 := hid S1
  replace hmv := hid hmv
  go_wp2_with fail
  refine hat.out.mono ?_
  rintro e w2 ⟨⟨n, rfl⟩, v, i, rfl, hv⟩
  cases hv with
  | fresh i hm hi h1 hke =>
    have hl := hok.memFresh hi h1
    have hfin := hok.buryFresh hm hi h1
    rw [hke] at hl hfin
    have hpf : ∃ f, pf = some f := by have := hmv.out; rw [hm] at this; exact Option.isSome_iff_exists.1 this.symm
    obtain ⟨f, rfl⟩ := hpf
    have c3 := (tabCells S1.out.own.head).c3
    have hpl : PlacesAt w1 f T.fresh.ps := S1.out.own.tail.tail.head
    have p2 := hpl.n hi
    have hB := (hok.busy hm).2.2.1
    simp only [slcV] at c3
    have hbury := hid (bury_fresh b po f i T (w1.drewN n) (S1.out.drewN n) (r := []) (by simp) hB hok.fresh hi)
    replace hl := hid hl
    replace hfin := hid hfin
    clear hat hm h1 hke hpl hok
    go_wp2_with fail
    refine hbury.out.mono ?_
    rintro e w3 ⟨rfl, S3⟩
    replace S3 := hid S3
    go_wp2_with fail
    go_ret2
    exact .mk (by rw [hl.out]; rfl) (by rw [hl.out]; rfl) ⟨_, po, some f, hfin.out.weak (Nat.zero_le _), hmv.out, rfl⟩ (by simpa using S3.out)
  | old i hi h1 hke =>
    have hl := hok.memOld hi h1
    have hfin := hok.buryOld hi h1
    rw [hke] at hl hfin
    have c0 := (tabCells S1.out.own.head).c0
    have hpl : PlacesAt w1 po T.old.ps := S1.out.own.tail.head
    have p2 := hpl.n hi
    have hB := hok.lenB
    have hbury := hid (bury_old b po i pf T (w1.drewN n) (S1.out.drewN n) (r := []) (by simp) hB hok.old hi)
    replace hl := hid hl
    replace hfin := hid hfin
    clear hat h1 hke hpl hok
    go_wp2_with fail
    refine hbury.out.mono ?_
    rintro e w3 ⟨rfl, S3⟩
    replace S3 := hid S3
    go_wp2_with fail
    go_ret2
    exact .mk (by rw [hl.out]; rfl) (by rw [hl.out]; rfl) ⟨_, po, pf, hfin.out.weak (Nat.zero_le _), hmv.out, rfl⟩ (by simpa using S3.out)
  | none hno hnf =>
    have hl := hid (hok.noneAt hno hnf)
    have hfin := hid (show IsTable (TabHp b po pf T) b (without M key) 0 by rw [without_none hl.out]; exact ⟨T, po, pf, hok.weak (Nat.zero_le _), hmv.out, rfl⟩)
    clear hat hno hnf hok hmv
    go_wp2_with fail
    go_ret2
    exact .mk (by rw [hl.out]; rfl) (by rw [hl.out]; rfl) hfin.out (S1.out.drewN n)
end Go.Proofs.YthfngplckbggpaaGreatDoor

namespace Go.Proofs.YthfngplckbggpaaGreatDoor
open Go Go.RowKit

theorem madeCells_places (n : Nat) : madeCells (Value.cells (.agg #[.int .i64 0, .string ByteArray.empty, .int .i64 0])) (n * 3) = (plCells (List.replicate n emptyPl)).toArray := by
  apply Array.ext_getElem?
  intro m
  obtain ⟨a, j, hj, rfl⟩ : ∃ a j, j < 3 ∧ m = a * 3 + j := ⟨m / 3, m % 3, Nat.mod_lt _ (by omega), by omega⟩
  have h2 : (plCells (List.replicate n emptyPl)).toArray[a * 3 + j]? = (plCells (List.replicate n emptyPl))[a * 3 + j]? := by simp
  rw [h2, plCells_get _ _ _ hj, List.length_replicate]
  simp only [madeCells, Value.cells, Array.getElem?_map, Array.getElem?_range]
  by_cases ha : a < n
  · have hr : plAt (List.replicate n emptyPl) a = emptyPl := by simp [plAt, List.getD, List.getElem?_replicate, ha]
    rw [if_pos ha, if_pos (by omega), hr]
    have e : (a * 3 + j) % 3 = j := by omega
    obtain rfl | rfl | rfl : j = 0 ∨ j = 1 ∨ j = 2 := by omega
    all_goals simp [e, plVals, emptyPl]
  · rw [if_neg ha, if_neg (by omega)]; rfl

theorem placeInfo : (Tryz.prog.info? 88).map (fun i => (i.zero, i.size, i.bytes)) = some (some (.agg #[.int .i64 0, .string ByteArray.empty, .int .i64 0]), 3, 32) := by kernel_rfl

set_option maxHeartbeats 1000000 in
theorem made_any (n : Nat) (w : World) (hB : n ≤ 1099511627776) :
    Calls Tryz.prog 37 #[.int .i64 n] w fun e w' => ∃ pb, e = .returned (.agg #[.slice (some ⟨pb, 0, none⟩) n n, .int .i64 0, .int .i64 0]) ∧ Step w [] w' [(pb, PlObj (List.replicate n emptyPl))] := by
  obtain ⟨i, hi, hz, hsz, hby⟩ := info_parts placeInfo
  have hmk : ∀ w, (Instr.makeSlice 81 (.int .i64 (n : Int)) (.int .i64 (n : Int))).run Tryz.prog w = .ok (.slice (some ⟨w.heap.size, 0, none⟩) n n) (w.alloc (PlObj (List.replicate n emptyPl))) := by
    intro w
    have := run_make (P := Tryz.prog) w 81 88 i _ Tryz.underlying81 hi hz .i64 .i64 n n (by omega) (by omega) (by rw [hby]; omega) (by omega)
    rw [hsz, Int.toNat_natCast, madeCells_places] at this
    exact this
  clear hz hsz hby hi
  go_enter Tryz.func37, Tryz.ntmps37
  go_wp2_with fail
  have S1 := ((Step.refl (Own.nil w)).alloc (.cells #[.slice (some ⟨w.heap.size + 1, 0, none⟩) n n, .int .i64 0, .int .i64 0] 83)).alloc (PlObj (List.replicate n emptyPl))
  exact bodyPost_ret (v := .agg #[.slice (some ⟨w.heap.size + 1, 0, none⟩) n n, .int .i64 0, .int .i64 0]) (by simp [results, Tryz.results37, go_sem]) rfl
    ⟨w.heap.size + 1, rfl, by simpa using S1.less (List.Sublist.cons_cons _ (List.nil_sublist _))⟩

set_option maxHeartbeats 1000000 in
theorem tnew_any (w : World) : Calls Tryz.prog 23 #[] w fun e w' => ∃ b l', e = .returned (.pointer (some ⟨b, 0, none⟩)) ∧ IsTable l' b [] 0 ∧ Step w [] w' l' := by
  have hmade := hid (made_any 8 w (by omega))
  go_enter Tryz.func23, Tryz.ntmps23
  go_wp2_with fail
  refine hmade.out.mono ?_
  rintro e w1 ⟨pb, rfl, S1⟩
  replace S1 := hid S1
  go_wp2_with fail
  go_ret
  refine ⟨w1.heap.size, _, rfl, ⟨newTb, pb, none, (newTb_ok hashNat).weak (Nat.zero_le _), rfl, rfl⟩, ?_⟩
  exact S1.out.alloc _

set_option maxHeartbeats 1000000 in
theorem tlen_any (l : Hp) (b : Nat) (M : KV) (c : Nat) (w : World) (hT : IsTable l b M c) (ho : Own w l) :
    Calls Tryz.prog 21 #[.pointer (some ⟨b, 0, none⟩)] w fun e w' => e = .returned (.int .i64 M.length) ∧ ∃ n, w' = w.drewN n := by
  obtain ⟨T, po, pf, hok, hmv, rfl⟩ := hT
  have c1 := (tabCells ho.head).c1
  have c4 := (tabCells ho.head).c4
  have hlen := hok.lens
  have h1 := hok.old.fl
  have h2 := hok.fresh.fl
  have hB := hok.lenB
  have hB2 : T.fresh.ps.length ≤ 1099511627776 := by
    cases hm : T.moving with
    | true => exact (hok.busy hm).2.2.1
    | false => rw [(hok.idle hm).1]; simp [noRow]
  rw [cnt_fulls] at h1 h2
  have := cnt_le T.old.ps 1
  have := cnt_le T.fresh.ps 1
  rw [cnt_fulls] at *
  have hsum : T.old.fl + T.fresh.fl = (M.length : Int) := by omega
  have hb1 : 0 ≤ T.old.fl ∧ T.old.fl ≤ 1099511627776 := by omega
  have hb2 : 0 ≤ T.fresh.fl ∧ T.fresh.fl ≤ 1099511627776 := by omega
  have hw : IntKind.i64.wrap (T.old.fl + T.fresh.fl) = T.old.fl + T.fresh.fl := IntWalk.i64_in _ (by omega)
  generalize T.old.fl = x at *
  generalize T.fresh.fl = y at *
  rw [← hsum]
  clear h1 h2 hlen hB hB2 hok hmv ho hsum
  go_enter Tryz.func21, Tryz.ntmps21
  go_wp2_with fail
  go_quiet (fail)
  go_wp2_with fail
  go_ret
  exact ⟨rfl, _, rfl⟩
end Go.Proofs.YthfngplckbggpaaGreatDoor

namespace Go.Proofs.YthfngplckbggpaaGreatDoor
open Go Go.RowKit

def GrowPost (b po : Nat) (pf : Option Nat) (T : Tb) (M : KV) (w : World) (e : Ending) (w' : World) : Prop :=
  e = .returned (.tuple #[]) ∧ ∃ pf' T', Step w (TabHp b po pf T) w' (TabHp b po pf' T') ∧ TabOk hashNat T' M 4 ∧ T'.moving = pf'.isSome ∧ T'.old = T.old ∧ (T'.moving = false → 2 * (T.old.fl + T.old.gr) < T.old.ps.length) ∧ T'.moving = (T.moving || decide (¬ 2 * (T.old.fl + T.old.gr) < T.old.ps.length)) ∧
    (T.moving = true → T' = T) ∧ (T.moving = false → T'.moving = true → T'.fresh.ps = List.replicate T'.fresh.ps.length emptyPl)

theorem tab_grown {w0 w w1 : World} {l : Hp} {b po pb n : Nat} {T : Tb} (hS : Step w0 l w (TabHp b po none T)) (hm : Step w [] w1 [(pb, PlObj (List.replicate n emptyPl))]) :
    Step w0 l ((((w1.setCell ⟨b, 3, none⟩ (.slice (some ⟨pb, 0, none⟩) n n)).setCell ⟨b, 4, none⟩ (.int .i64 0)).setCell ⟨b, 5, none⟩ (.int .i64 0)).setCell ⟨b, 6, none⟩ (.bool true))
      (TabHp b po (some pb) ⟨T.old, ⟨List.replicate n emptyPl, 0, 0⟩, true, T.next⟩) := by
  have h1 := (hS.beginning hm).permR (l2 := [(b, TabObj po none T), (po, PlObj T.old.ps), (pb, PlObj (List.replicate n emptyPl))]) (List.perm_append_comm (l₁ := [_]) (l₂ := [_, _]))
  have h2 := (((h1.set 3 (.slice (some ⟨pb, 0, none⟩) n n)).set 4 (.int .i64 0)).set 5 (.int .i64 0)).set 6 (.bool true)
  have e : ((((tabArr po none T).setIfInBounds 3 (.slice (some ⟨pb, 0, none⟩) n n)).setIfInBounds 4 (.int .i64 0)).setIfInBounds 5 (.int .i64 0)).setIfInBounds 6 (.bool true) = tabArr po (some pb) ⟨T.old, ⟨List.replicate n emptyPl, 0, 0⟩, true, T.next⟩ := by
    simp [tabArr, slcV]
  rw [e] at h2
  exact h2

set_option maxRecDepth 100000 in
set_option maxHeartbeats 1000000 in
theorem grow_any (b po : Nat) (pf : Option Nat) (T : Tb) (M : KV) (w : World) (hok : TabOk hashNat T M 4) (hmv : T.moving = pf.isSome) (hM : M.length ≤ 68719476736) (ho : Own w (TabHp b po pf T)) :
    Calls Tryz.prog 189 #[.pointer (some ⟨b, 0, none⟩)] w (GrowPost b po pf T M w) := by
  have hpost : Hid (∀ w' pf' T', Step w (TabHp b po pf T) w' (TabHp b po pf' T') → TabOk hashNat T' M 4 → T'.moving = pf'.isSome → T'.old = T.old → (T'.moving = false → 2 * (T.old.fl + T.old.gr) < T.old.ps.length) → T'.moving = (T.moving || decide (¬ 2 * (T.old.fl + T.old.gr) < T.old.ps.length)) →
      (T.moving = true → T' = T) → (T.moving = false → T'.moving = true → T'.fresh.ps = List.replicate T'.fresh.ps.length emptyPl) → GrowPost b po pf T M w (.returned (.tuple #[])) w') := fun w' pf' T' h1 h2 h3 h4 h5 h6 h7 h8 => ⟨rfl, pf', T', h1, h2, h3, h4, h5, h6, h7, h8⟩
  have hst := hid (Step.refl ho)
  obtain ⟨c0, c1, c2, c3, c4, c5, c6, c7, fz, hlt⟩ := tabCells ho.head
  have hlen := hok.len
  have hlB := hok.lenB
  have hbd := hok.old.bd hlB
  have hbd1 := hbd.1
  have hbd2 := hbd.2
  cases hm : T.moving with
  | true =>
    rw [hm] at c6
    have hok' := hid hok
    have hmv' := hid hmv
    have hm' := hid hm
    clear hok hmv hm ho c0 c1 c2 c3 c4 c5 c7 hbd
    go_enter Tryz.func189, Tryz.ntmps189
    go_wp2_with fail
    go_quiet (fail)
    go_wp2_with fail
    refine bodyPost_ret (results_none rfl _ _ _) rfl ?_
    exact hpost.out _ pf T (hst.out.drewN nq) hok'.out hmv'.out rfl (fun h => by rw [hm'.out] at h; cases h) (by rw [hm'.out]; rfl) (fun _ => rfl) (fun h => by rw [hm'.out] at h; cases h)
  | false =>
    rw [hm] at c6
    obtain rfl : pf = none := by rw [hm] at hmv; cases pf with | none => rfl | some f => simp at hmv
    have hs1 : IntKind.i64.wrap (T.old.fl + T.old.gr) = T.old.fl + T.old.gr := IntWalk.i64_in _ (by omega)
    have hs2 : IntKind.i64.wrap (2 * (T.old.fl + T.old.gr)) = 2 * (T.old.fl + T.old.gr) := IntWalk.i64_in _ (by omega)
    by_cases hfit : 2 * (T.old.fl + T.old.gr) < T.old.ps.length
    · have ht : decide (2 * (T.old.fl + T.old.gr) < (T.old.ps.length : Int)) = true := by simpa using hfit
      have hok' := hid hok
      have hm' := hid hm
      have hfit' := hid hfit
      clear hok hmv hm ho c3 c4 c5 c7 hbd hfit
      go_enter Tryz.func189, Tryz.ntmps189
      go_wp2_with fail
      go_quiet (fail)
      go_wp2_with fail
      refine bodyPost_ret (results_none rfl _ _ _) rfl ?_
      exact hpost.out _ none T (hst.out.drewN nq) hok'.out hm'.out rfl (fun _ => hfit'.out) (by rw [hm'.out]; simpa using hfit'.out) (fun _ => rfl) (fun _ h => by rw [hm'.out] at h; cases h)
    · have ht : decide (2 * (T.old.fl + T.old.gr) < (T.old.ps.length : Int)) = false := by simpa using hfit
      have hflM : T.old.fl ≤ (M.length : Int) := by
        have h1 := hok.old.fl
        have h2 := hok.lens
        rw [cnt_fulls] at h1
        omega
      have hflM' : T.old.fl ≤ 68719476736 := by omega
      have hnx := (hok.idle hm).2
      have hok' := hid hok
      have hm' := hid hm
      have hfit' := hid hfit
      have hnx' := hid hnx
      have hlen2 : (0 : Int) ≤ (T.old.ps.length : Int) / 2 := by omega
      clear hok hmv hm ho c3 c4 c5 c7 hbd hfit hnx hflM
      have hmade := hid (fun n w hB => made_any n w hB)
      have hmk : ∀ (w1 w2 w' : World) (n pb : Nat), Step w (TabHp b po none T) w1 (TabHp b po none T) → Step w1 [] w2 [(pb, PlObj (List.replicate n emptyPl))] → 8 ≤ n → n ≤ 1099511627776 → T.old.ps.length ≤ 2 * n + 1 → T.old.fl < ((n / 4 : Nat) : Int) →
          w' = (((w2.setCell ⟨b, 3, none⟩ (.slice (some ⟨pb, 0, none⟩) n n)).setCell ⟨b, 4, none⟩ (.int .i64 0)).setCell ⟨b, 5, none⟩ (.int .i64 0)).setCell ⟨b, 6, none⟩ (.bool true) →
          GrowPost b po none T M w (.returned (.tuple #[])) w' := by
        intro w1 w2 w' n pb hS hmd h8 hB hL hf hw
        subst hw
        have hfin := hok'.out.grown (room := n) hm'.out h8 hB hL (by omega)
        have hg := tab_grown hS hmd
        rw [hnx'.out] at hg
        exact hpost.out _ (some pb) _ hg hfin rfl rfl (fun h => by cases h) (by rw [hm'.out]; simpa using hfit'.out) (fun h => by rw [hm'.out] at h; cases h) (fun _ _ => by simp)
      replace hmk := hid hmk
      clear hpost
      obtain ⟨r0, hr0, hr8, hrL, hrB⟩ : ∃ r0 : Nat, (if (8 : Int) < (T.old.ps.length : Int) / 2 then (T.old.ps.length : Int) / 2 else 8) = (r0 : Int) ∧ 8 ≤ r0 ∧ T.old.ps.length ≤ 2 * r0 + 1 ∧ r0 ≤ 1099511627776 := by
        by_cases h : (8 : Int) < (T.old.ps.length : Int) / 2
        · exact ⟨T.old.ps.length / 2, by rw [if_pos h]; omega, by omega, by omega, by omega⟩
        · exact ⟨8, by rw [if_neg h]; rfl, by omega, by omega, by omega⟩
      replace hr0 := hid hr0
      by_cases h8 : (8 : Int) < (T.old.ps.length : Int) / 2
      · have hrr := hr0.out
        rw [if_pos h8] at hrr
        go_enter Tryz.func189, Tryz.ntmps189
        go_wp2_with fail
        go_quiet (fail)
        clear ht hs1 hs2
        go_wp2_with fail
        go_loop [2] (fun r => ∃ n : Nat, r = .int .i64 n ∧ 8 ≤ n ∧ T.old.ps.length ≤ 2 * n + 1 ∧ n ≤ 1099511627776) (fun r => 2199023255552 - (intOf r).toNat)
        case atStart => exact ⟨r0, rfl, hr8, hrL, hrB⟩
        case round =>
          clear hrr hr8 hrL hrB
          obtain ⟨n, rfl, hn8, hnL, hnB⟩ := hrel
          by_cases hgo : (n : Int) / 4 ≤ T.old.fl
          · go_wp2_with fail
            go_round
            case rel => exact ⟨n * 2, by go_num, by omega, by omega, by omega⟩
            case measure => simp [intOf]; omega
          · have hgo' : T.old.fl < (n : Int) / 4 := by omega
            have hlast := hid (show T.old.fl < ((n / 4 : Nat) : Int) by omega)
            go_wp2_with fail
            refine (hmade.out n _ hnB).mono ?_
            rintro e w2 ⟨pb, rfl, S2⟩
            have S3 := tabCells (((hst.out.drewN nq).beginning S2).own.right (l := [_])).head
            obtain ⟨d0, d1, d2, d3, d4, d5, d6, d7, dz, dlt⟩ := S3
            replace S2 := hid S2
            go_wp2_with fail
            go_end0
            exact hmk.out _ _ _ n pb (hst.out.drewN nq) S2.out hn8 hnB hnL hlast.out rfl
      · have hrr := hr0.out
        rw [if_neg h8] at hrr
        obtain rfl : r0 = 8 := by omega
        clear hr0 hrr
        go_enter Tryz.func189, Tryz.ntmps189
        go_wp2_with fail
        go_quiet (fail)
        clear ht hs1 hs2
        go_wp2_with fail
        go_loop [2] (fun r => ∃ n : Nat, r = .int .i64 n ∧ 8 ≤ n ∧ T.old.ps.length ≤ 2 * n + 1 ∧ n ≤ 1099511627776) (fun r => 2199023255552 - (intOf r).toNat)
        case atStart => exact ⟨8, rfl, hr8, hrL, hrB⟩
        case round =>
          clear hr8 hrL hrB
          obtain ⟨n, rfl, hn8, hnL, hnB⟩ := hrel
          by_cases hgo : (n : Int) / 4 ≤ T.old.fl
          · go_wp2_with fail
            go_round
            case rel => exact ⟨n * 2, by go_num, by omega, by omega, by omega⟩
            case measure => simp [intOf]; omega
          · have hgo' : T.old.fl < (n : Int) / 4 := by omega
            have hlast := hid (show T.old.fl < ((n / 4 : Nat) : Int) by omega)
            go_wp2_with fail
            refine (hmade.out n _ hnB).mono ?_
            rintro e w2 ⟨pb, rfl, S2⟩
            have S3 := tabCells (((hst.out.drewN nq).beginning S2).own.right (l := [_])).head
            obtain ⟨d0, d1, d2, d3, d4, d5, d6, d7, dz, dlt⟩ := S3
            replace S2 := hid S2
            go_wp2_with fail
            go_end0
            exact hmk.out _ _ _ n pb (hst.out.drewN nq) S2.out hn8 hnB hnL hlast.out rfl

end Go.Proofs.YthfngplckbggpaaGreatDoor
