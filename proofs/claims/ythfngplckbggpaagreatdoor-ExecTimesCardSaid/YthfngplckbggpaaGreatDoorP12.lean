/-
  The plain law of the store: keys in the order of their use, what they have, when they end, what happened. No program in sight.
  item.Cost; item.Right over any item that can be.
  store: what a Store is in memory; tell, Bytes.
  store: what a Store's parts are behind a key that goes.
-/
import Derived.Test.YthfngplckbggpaaGreatDoorP10
import Derived.Test.YthfngplckbggpaaGreatDoorP11
import Derived.Test.YthfngplckbggpaaGreatDoorP07
import Derived.Test.YthfngplckbggpaaGreatDoorP04
set_option linter.unusedVariables false
set_option linter.unusedSimpArgs false
namespace Go.Proofs.YthfngplckbggpaaGreatDoor
open Go

/-- What a key has. -/
structure Itm where
  kind : Int
  text : ByteArray
  fs : Fs

def zeroItm : Itm := ⟨0, ByteArray.empty, []⟩

def fieldsCost (fs : Fs) : Nat := (fs.map fun f => 16 + f.1.size + f.2.size).sum
/-- How many bytes a key counts. -/
def cost (key : ByteArray) (it : Itm) : Nat :=
  48 + key.size + if it.kind = 1 then (if (wnum it.text).isSome then 8 else it.text.size) else fieldsCost it.fs

/-- Can an item be? -/
def rightB (it : Itm) : Prop :=
  (it.kind = 1 ∧ it.text.size ≤ 4096 ∧ it.fs = []) ∨
  (it.kind = 2 ∧ it.text = ByteArray.empty ∧ Rise it.fs ∧ 1 ≤ it.fs.length ∧ it.fs.length ≤ 256 ∧ ∀ f ∈ it.fs, f.1.size ≤ 512 ∧ f.2.size ≤ 4096)

def bytesOf (L : AL Itm) : Nat := (L.map fun p => cost p.1 p.2).sum

structure St where
  L : AL Itm
  D : AL Int
  ev : List (Int × ByteArray)
  bud : Nat

def St.gone (S : St) (key : ByteArray) (kind : Int) : St := if (mlook S.L key).isSome then { S with L := mdel S.L key, D := mdel S.D key, ev := S.ev ++ [(kind, key)] } else S
def St.due (S : St) (key : ByteArray) (now : Int) : St := match mlook S.D key with
  | some t => if t ≤ now then S.gone key 3 else S
  | none => S
def St.touch (S : St) (key : ByteArray) : St := match mlook S.L key with
  | some it => { S with L := mdel S.L key ++ [(key, it)] }
  | none => S
def St.evict : Nat → St → ByteArray → St
  | 0, S, _ => S
  | n + 1, S, but => if S.bud < bytesOf S.L then (if (oldest (S.L.map Prod.fst) but).2 then St.evict n (S.gone (oldest (S.L.map Prod.fst) but).1 4) but else S) else S
def St.lay (S : St) (key : ByteArray) (it : Itm) (keep : Bool) : St := { S with L := mdel S.L key ++ [(key, it)], D := if keep then S.D else mdel S.D key, ev := S.ev ++ [(1, key)] }

/-- What is always so. -/
structure Fit (S : St) : Prop where
  nd : (S.L.map Prod.fst).Nodup
  ends : ∀ k ∈ S.D.map Prod.fst, k ∈ S.L.map Prod.fst
  dnd : (S.D.map Prod.fst).Nodup
  key : ∀ p ∈ S.L, p.1.size ≤ 512 ∧ rightB p.2
  bud : S.bud ≤ 1000000000000
  le : bytesOf S.L ≤ 2000000000000
/-- No more than the budget. -/
def Tight (S : St) : Prop := bytesOf S.L ≤ S.bud

theorem cost_ge (k : ByteArray) (it : Itm) : 48 ≤ cost k it := by unfold cost; omega
theorem bytes_ge (L : AL Itm) : 48 * L.length ≤ bytesOf L := by
  induction L with
  | nil => simp [bytesOf]
  | cons p L ih =>
    have := cost_ge p.1 p.2
    simp only [bytesOf, List.map_cons, List.sum_cons, List.length_cons] at ih ⊢
    omega
theorem bytes_append (A B : AL Itm) : bytesOf (A ++ B) = bytesOf A + bytesOf B := by simp [bytesOf]
theorem bytes_perm {A B : AL Itm} (h : A.Perm B) : bytesOf A = bytesOf B := (h.map _).sum_nat
theorem Fit.few {S : St} (h : Fit S) : S.L.length ≤ 41666666667 := by
  have := bytes_ge S.L; have := h.le; omega
theorem Fit.fewD {S : St} (h : Fit S) : S.D.length ≤ S.L.length := by
  have : (S.D.map Prod.fst).length ≤ (S.L.map Prod.fst).length := List.Nodup.length_le_of_subset h.dnd h.ends
  simpa using this

theorem mlook_some {α : Type} {m : AL α} {k : ByteArray} {v : α} (h : mlook m k = some v) : (k, v) ∈ m := by
  simp only [mlook, Option.map_eq_some_iff] at h
  obtain ⟨p, hp, rfl⟩ := h
  have h1 := List.mem_of_find?_eq_some hp
  have h2 := List.find?_some hp
  simp only [decide_eq_true_eq] at h2
  subst h2; exact h1
theorem mlook_none {α : Type} {m : AL α} {k : ByteArray} (h : mlook m k = none) : k ∉ m.map Prod.fst := by
  intro hm
  obtain ⟨p, hp, rfl⟩ := List.mem_map.1 hm
  simp only [mlook, Option.map_eq_none_iff, List.find?_eq_none] at h
  exact h p hp (by simp)
theorem mlook_mem {α : Type} {m : AL α} {k : ByteArray} {v : α} (hn : (m.map Prod.fst).Nodup) (h : (k, v) ∈ m) : mlook m k = some v := by
  induction m with
  | nil => cases h
  | cons p m ih =>
    simp only [List.map_cons, List.nodup_cons] at hn
    rcases List.mem_cons.1 h with rfl | h
    · simp [mlook]
    · have hne : p.1 ≠ k := fun e => hn.1 (List.mem_map.2 ⟨_, h, e.symm⟩)
      have := ih hn.2 h
      simp only [mlook, List.find?_cons, decide_eq_false hne] at this ⊢
      exact this
theorem mlook_iff {α : Type} {m : AL α} {k : ByteArray} : (mlook m k).isSome ↔ k ∈ m.map Prod.fst := by
  constructor
  · intro h
    obtain ⟨v, hv⟩ := Option.isSome_iff_exists.1 h
    exact List.mem_map.2 ⟨_, mlook_some hv, rfl⟩
  · intro h
    cases hm : mlook m k with
    | none => exact absurd h (mlook_none hm)
    | some v => rfl
theorem mem_mdel {α : Type} {m : AL α} {k : ByteArray} {p : ByteArray × α} : p ∈ mdel m k ↔ p ∈ m ∧ p.1 ≠ k := by simp [mdel]
theorem mdel_fst {α : Type} {m : AL α} {k x : ByteArray} : x ∈ (mdel m k).map Prod.fst ↔ x ∈ m.map Prod.fst ∧ x ≠ k := by
  simp only [List.mem_map, mem_mdel]
  constructor
  · rintro ⟨p, ⟨h1, h2⟩, rfl⟩; exact ⟨⟨p, h1, rfl⟩, h2⟩
  · rintro ⟨⟨p, h1, rfl⟩, h2⟩; exact ⟨p, ⟨h1, h2⟩, rfl⟩
theorem mdel_split {α : Type} {m : AL α} {k : ByteArray} {v : α} (hn : (m.map Prod.fst).Nodup) (h : mlook m k = some v) : m.Perm ((k, v) :: mdel m k) := by
  induction m with
  | nil => cases h
  | cons p m ih =>
    simp only [List.map_cons, List.nodup_cons] at hn
    by_cases hp : p.1 = k
    · have hv : p.2 = v := by simpa [mlook, hp] using h
      have hd : mdel (p :: m) k = m := by
        obtain ⟨a, b⟩ := p
        simp only at hp; subst hp
        exact mdel_cons hn.1
      rw [hd, ← hp, ← hv]
    · have hm : mlook m k = some v := by simpa [mlook, hp] using h
      have hd : mdel (p :: m) k = p :: mdel m k := by simp [mdel, hp]
      rw [hd]
      exact ((ih hn.2 hm).cons p).trans (List.Perm.swap _ _ _)
theorem bytes_mdel {L : AL Itm} {k : ByteArray} {it : Itm} (hn : (L.map Prod.fst).Nodup) (h : mlook L k = some it) : bytesOf L = cost k it + bytesOf (mdel L k) := by
  rw [bytes_perm (mdel_split hn h)]; simp [bytesOf]
theorem bytes_mdel_le (L : AL Itm) (k : ByteArray) : bytesOf (mdel L k) ≤ bytesOf L := by
  induction L with
  | nil => simp [mdel]
  | cons p L ih =>
    by_cases hp : p.1 = k
    · have : mdel (p :: L) k = mdel L k := by simp [mdel, hp]
      rw [this]; simp only [bytesOf, List.map_cons, List.sum_cons] at ih ⊢; omega
    · have : mdel (p :: L) k = p :: mdel L k := by simp [mdel, hp]
      rw [this]; simp only [bytesOf, List.map_cons, List.sum_cons] at ih ⊢; omega
theorem mdel_nodup {α : Type} {m : AL α} {k : ByteArray} (h : (m.map Prod.fst).Nodup) : ((mdel m k).map Prod.fst).Nodup := mdel_keys h
theorem mdel_snoc_nodup {α : Type} {m : AL α} {k : ByteArray} {v : α} (h : (m.map Prod.fst).Nodup) : ((mdel m k ++ [(k, v)]).map Prod.fst).Nodup := by
  rw [List.map_append, List.nodup_append]
  refine ⟨mdel_keys h, by simp, ?_⟩
  intro a ha b hb e
  simp only [List.map_cons, List.map_nil, List.mem_cons, List.not_mem_nil, or_false] at hb
  subst e; exact (mdel_fst.1 ha).2 hb

theorem Fit.gone {S : St} (h : Fit S) (key : ByteArray) (kind : Int) : Fit (S.gone key kind) := by
  unfold St.gone
  split
  · refine ⟨mdel_keys h.nd, fun k hk => ?_, mdel_keys h.dnd, fun p hp => h.key p (mem_mdel.1 hp).1, h.bud, Nat.le_trans (bytes_mdel_le _ _) h.le⟩
    have := mdel_fst.1 hk
    exact mdel_fst.2 ⟨h.ends k this.1, this.2⟩
  · exact h
theorem Fit.due {S : St} (h : Fit S) (key : ByteArray) (now : Int) : Fit (S.due key now) := by
  unfold St.due
  split
  · split
    · exact h.gone _ _
    · exact h
  · exact h
theorem Fit.touch {S : St} (h : Fit S) (key : ByteArray) : Fit (S.touch key) := by
  unfold St.touch
  split
  · rename_i it hl
    have hp := mdel_split h.nd hl
    have hq : (mdel S.L key ++ [(key, it)]).Perm S.L := List.perm_append_comm.trans hp.symm
    exact ⟨mdel_snoc_nodup h.nd, fun k hk => ((hq.map Prod.fst).mem_iff).2 (h.ends k hk), h.dnd, fun p hp => h.key p (hq.mem_iff.1 hp), h.bud, by rw [bytes_perm hq]; exact h.le⟩
  · exact h


theorem gone_yes {S : St} {key : ByteArray} {kind : Int} {it : Itm} (h : mlook S.L key = some it) : S.gone key kind = { S with L := mdel S.L key, D := mdel S.D key, ev := S.ev ++ [(kind, key)] } := by simp [St.gone, h]
theorem gone_no {S : St} {key : ByteArray} {kind : Int} (h : mlook S.L key = none) : S.gone key kind = S := by simp [St.gone, h]
theorem gone_bud (S : St) (key : ByteArray) (kind : Int) : (S.gone key kind).bud = S.bud := by unfold St.gone; split <;> rfl
theorem due_bud (S : St) (key : ByteArray) (now : Int) : (S.due key now).bud = S.bud := by
  unfold St.due
  split
  · split
    · exact gone_bud _ _ _
    · rfl
  · rfl
theorem touch_bud (S : St) (key : ByteArray) : (S.touch key).bud = S.bud := by unfold St.touch; split <;> rfl
theorem evict_bud : ∀ (n : Nat) (S : St) (but : ByteArray), (S.evict n but).bud = S.bud
  | 0, S, but => rfl
  | n + 1, S, but => by
    unfold St.evict
    split
    · split
      · rw [evict_bud n, gone_bud]
      · rfl
    · rfl
theorem gone_ev (S : St) (key : ByteArray) (kind : Int) : (S.gone key kind).ev.length ≤ S.ev.length + 1 := by unfold St.gone; split <;> simp
theorem due_ev (S : St) (key : ByteArray) (now : Int) : (S.due key now).ev.length ≤ S.ev.length + 1 := by
  unfold St.due
  split
  · split
    · exact gone_ev _ _ _
    · omega
  · omega
theorem gone_len (S : St) (key : ByteArray) (kind : Int) : (S.gone key kind).L.length ≤ S.L.length := by
  unfold St.gone
  split
  · exact List.length_filter_le _ _
  · exact Nat.le_refl _

theorem Tight.gone {S : St} (h : Tight S) (key : ByteArray) (kind : Int) : Tight (S.gone key kind) := by
  unfold Tight at *
  rw [gone_bud]
  unfold St.gone
  split
  · exact Nat.le_trans (bytes_mdel_le _ _) h
  · exact h
theorem Tight.due {S : St} (h : Tight S) (key : ByteArray) (now : Int) : Tight (S.due key now) := by
  unfold St.due
  split
  · split
    · exact h.gone _ _
    · exact h
  · exact h
theorem Tight.touch {S : St} (hf : Fit S) (h : Tight S) (key : ByteArray) : Tight (S.touch key) := by
  unfold Tight at *
  rw [touch_bud]
  unfold St.touch
  split
  · rename_i it hl
    have hq : (mdel S.L key ++ [(key, it)]).Perm S.L := List.perm_append_comm.trans (mdel_split hf.nd hl).symm
    rw [bytes_perm hq]; exact h
  · exact h

theorem Fit.lay {S : St} (h : Fit S) (ht : Tight S) {key : ByteArray} {it : Itm} (hk : key.size ≤ 512) (hr : rightB it) (hc : cost key it ≤ S.bud) (keep : Bool) : Fit (S.lay key it keep) := by
  have hb := h.bud
  have hkeys : ∀ x, x ∈ (mdel S.L key ++ [(key, it)]).map Prod.fst ↔ x ∈ S.L.map Prod.fst ∨ x = key := by
    intro x
    rw [List.map_append, List.mem_append, mdel_fst]
    simp only [List.map_cons, List.map_nil, List.mem_cons, List.not_mem_nil, or_false]
    by_cases e : x = key <;> simp [e]
  refine ⟨mdel_snoc_nodup h.nd, fun k hk => ?_, ?_, fun p hp => ?_, h.bud, ?_⟩
  · refine (hkeys k).2 ?_
    cases keep with
    | true => exact .inl (h.ends k hk)
    | false => exact .inl (h.ends k (mdel_fst.1 hk).1)
  · cases keep with
    | true => exact h.dnd
    | false => exact mdel_keys h.dnd
  · rcases List.mem_append.1 hp with hp | hp
    · exact h.key p (mem_mdel.1 hp).1
    · simp only [List.mem_cons, List.not_mem_nil, or_false] at hp
      subst hp; exact ⟨hk, hr⟩
  · have h1 := bytes_mdel_le S.L key
    have h2 : bytesOf (mdel S.L key ++ [(key, it)]) = bytesOf (mdel S.L key) + cost key it := by rw [bytes_append]; simp [bytesOf]
    unfold Tight at ht
    show bytesOf (mdel S.L key ++ [(key, it)]) ≤ _
    omega

theorem oldest_some {ks : List ByteArray} {but : ByteArray} (h : (oldest ks but).2 = true) (hn : ks.Nodup) : (oldest ks but).1 ∈ ks ∧ (oldest ks but).1 ≠ but := by
  unfold oldest at h ⊢
  match ks, hn with
  | [], _ => simp at h
  | [k], _ =>
    by_cases hk : k = but
    · simp [hk] at h
    · simp [hk]
  | k :: k2 :: r, hn =>
    by_cases hk : k = but
    · subst hk
      simp only [List.nodup_cons, List.mem_cons, not_or] at hn
      simp only [if_true]
      exact ⟨by simp, fun e => hn.1.1 e.symm⟩
    · simp [hk]
theorem oldest_none {ks : List ByteArray} {but : ByteArray} (h : (oldest ks but).2 = false) : ks = [] ∨ ks = [but] := by
  unfold oldest at h
  match ks with
  | [] => exact .inl rfl
  | [k] =>
    by_cases hk : k = but
    · exact .inr (by rw [hk])
    · simp [hk] at h
  | k :: k2 :: r =>
    by_cases hk : k = but <;> simp [hk] at h

theorem mlook_mdel {α : Type} {m : AL α} {k x : ByteArray} (h : x ≠ k) : mlook (mdel m k) x = mlook m x := by
  induction m with
  | nil => rfl
  | cons p m ih =>
    simp only [mlook, mdel, List.filter_cons] at ih ⊢
    by_cases hp : p.1 = k
    · have hx : ¬ p.1 = x := fun e => h (e.symm.trans hp)
      simp only [hp, ne_eq, not_true, decide_false, Bool.false_eq_true, if_false]
      rw [ih, List.find?_cons]
      simp [hx]
    · simp only [ne_eq, hp, not_false_eq_true, decide_true, if_true, List.find?_cons]
      by_cases hx : p.1 = x
      · simp [hx]
      · simp only [hx, decide_false]; exact ih
theorem mlook_mdel_same {α : Type} {m : AL α} {k : ByteArray} : mlook (mdel m k) k = none := by
  cases h : mlook (mdel m k) k with
  | none => rfl
  | some v => exact absurd rfl (mem_mdel.1 (mlook_some h)).2

/-- As long as there is too much, keys go; then there isn't. -/
theorem evict_ok : ∀ (n : Nat) (S : St) (but : ByteArray), Fit S → S.L.length ≤ n → (∃ it, mlook S.L but = some it ∧ cost but it ≤ S.bud) → Fit (S.evict n but) ∧ Tight (S.evict n but) ∧ mlook (S.evict n but).L but = mlook S.L but ∧ (S.evict n but).ev.length ≤ S.ev.length + S.L.length
  | 0, S, but, hf, hn, ⟨it, h, _⟩ => by
    have hl : S.L = [] := List.length_eq_zero_iff.1 (Nat.le_zero.1 hn)
    rw [hl] at h; cases h
  | n + 1, S, but, hf, hn, ⟨it, h, hc⟩ => by
    unfold St.evict
    split
    · rename_i hb
      split
      · rename_i ho
        obtain ⟨hm, hne⟩ := oldest_some ho hf.nd
        obtain ⟨jt, hj⟩ := Option.isSome_iff_exists.1 (mlook_iff.2 hm)
        have hg := gone_yes (kind := 4) hj
        have hl2 : mlook (S.gone (oldest (S.L.map Prod.fst) but).1 4).L but = mlook S.L but := by rw [hg]; exact mlook_mdel (Ne.symm hne)
        have hlen : (S.gone (oldest (S.L.map Prod.fst) but).1 4).L.length + 1 = S.L.length := by
          rw [hg]
          have := (mdel_split hf.nd hj).length_eq
          simpa using this.symm
        have hev := gone_ev S (oldest (S.L.map Prod.fst) but).1 4
        have ih := evict_ok n _ but (hf.gone (oldest (S.L.map Prod.fst) but).1 4) (by omega) ⟨it, by rw [hl2]; exact h, by rw [gone_bud]; exact hc⟩
        exact ⟨ih.1, ih.2.1, by rw [ih.2.2.1, hl2], by have := ih.2.2.2; omega⟩
      · rename_i ho
        rcases oldest_none (by simpa using ho) with hz | hz
        · rw [List.map_eq_nil_iff] at hz
          rw [hz] at h; cases h
        · exfalso
          obtain ⟨p, hp, hpe⟩ : ∃ p, S.L = [p] ∧ p.1 = but := by
            cases hL : S.L with
            | nil => rw [hL] at hz; cases hz
            | cons p r =>
              rw [hL] at hz
              simp only [List.map_cons, List.cons.injEq, List.map_eq_nil_iff] at hz
              obtain ⟨hz1, rfl⟩ := hz
              exact ⟨p, rfl, hz1⟩
          have := mlook_some h
          rw [hp] at this hb
          simp only [List.mem_cons, List.not_mem_nil, or_false] at this
          subst this
          simp [bytesOf] at hb
          omega
    · rename_i hb
      exact ⟨hf, by unfold Tight; omega, rfl, by omega⟩

end Go.Proofs.YthfngplckbggpaaGreatDoor

namespace Go.Proofs.YthfngplckbggpaaGreatDoor
open Go Go.RowKit

theorem right_any {w0 w : World} {l r sl : Hp} {v : Value} {it : Itm} (hS : Step w0 l w (sl ++ r)) (hat : IsFields v it.fs sl) (hr : rightB it) :
    Calls Tryz.prog 147 #[itemVal it.kind it.text v] w fun e w' => e = .returned (.bool true) ∧ Step w0 l w' (sl ++ r) := by
  obtain ⟨kind, text, fs⟩ := it
  rcases hr with ⟨hk, ht, hf⟩ | ⟨hk, ht, hrise, h1, h2, hf⟩
  · simp only at hk ht hf hat ⊢
    subst hk hf
    obtain rfl := hat.nil rfl
    exact right_text hS ht
  · simp only at hk ht hrise h1 h2 hf hat ⊢
    subst hk ht
    obtain ⟨g, cap, rest, rfl, hc, hc2, rfl, hrest⟩ := hat.sl.view (by omega)
    exact right_hash hS hrise h1 h2 hf

theorem fieldsCost_snoc (fs : Fs) (k : Nat) (f : ByteArray × ByteArray) (h : fs[k]? = some f) : fieldsCost (fs.take (k + 1)) = fieldsCost (fs.take k) + (16 + f.1.size + f.2.size) := by
  obtain ⟨hk, rfl⟩ := List.getElem?_eq_some_iff.1 h
  rw [List.take_succ_eq_append_getElem hk]
  simp only [fieldsCost, List.map_append, List.sum_append, List.map_cons, List.map_nil, List.sum_cons, List.sum_nil, Nat.add_zero]
theorem fieldsCost_le (fs : Fs) (k : Nat) : fieldsCost (fs.take k) ≤ fieldsCost fs := by
  have : fieldsCost fs = fieldsCost (fs.take k) + fieldsCost (fs.drop k) := by
    conv => lhs; rw [← List.take_append_drop k fs]
    simp only [fieldsCost, List.map_append, List.sum_append]
  omega

set_option maxRecDepth 100000 in
theorem cost_text {w0 w : World} {r : Hp} {v : Value} {key text : ByteArray} (hS : Step w0 [] w r) (hG : Glob w0) (hk : key.size ≤ 1099511627776) (ht : text.size ≤ 1099511627776) :
    Calls Tryz.prog 148 #[.string key, itemVal 1 text v] w fun e w' => e = .returned (.int .i64 (cost key ⟨1, text, []⟩ : Nat)) ∧ Step w0 [] w' r := by
  have S1 := hS.alloc (.cells #[.int .i64 1, .string text, v] 62)
  have hcall := hid (wparse_any S1 hG text ht)
  clear hS S1
  cases hn : wnum text with
  | some n =>
    have hc := hid (show (cost key ⟨1, text, []⟩ : Int) = 48 + (key.size : Int) + 8 by simp [cost, hn])
    rw [hn] at hcall
    go_enter Tryz.func148, Tryz.ntmps148
    unfold itemVal
    go_wp2_with fail
    refine hcall.out.mono ?_
    rintro e w2 ⟨rfl, S2⟩
    have c1 := (cells3 S2.own.head).c1
    have S3 := hid (S2.less (List.sublist_cons_self _ _))
    simp only [wcode, Option.isSome_some, if_true]
    clear S2 hcall
    replace hn := hid hn
    go_wp2_with fail
    go_ret
    rw [hc.out]
    exact ⟨rfl, S3.out⟩
  | none =>
    have hc := hid (show (cost key ⟨1, text, []⟩ : Int) = 48 + (key.size : Int) + text.size by simp [cost, hn])
    rw [hn] at hcall
    go_enter Tryz.func148, Tryz.ntmps148
    unfold itemVal
    go_wp2_with fail
    refine hcall.out.mono ?_
    rintro e w2 ⟨rfl, S2⟩
    have c1 := (cells3 S2.own.head).c1
    have S3 := hid (S2.less (List.sublist_cons_self _ _))
    simp only [wcode, Option.isSome_none, Bool.false_eq_true, if_false]
    clear S2 hcall
    replace hn := hid hn
    go_wp2_with fail
    go_ret
    rw [hc.out]
    exact ⟨rfl, S3.out⟩

set_option maxRecDepth 100000 in
set_option maxHeartbeats 1000000 in
theorem cost_hash {w0 w : World} {l r sl : Hp} {v : Value} {key text : ByteArray} {kind : Int} {fs : Fs} (hkd : (kind == 1) = false) (hS : Step w0 l w (sl ++ r)) (hat : IsFields v fs sl) (hk : key.size ≤ 1099511627776) (hB : fs.length ≤ 1048576) (hf : fieldsCost fs ≤ 1099511627776) :
    Calls Tryz.prog 148 #[.string key, itemVal kind text v] w fun e w' => e = .returned (.int .i64 (48 + key.size + fieldsCost fs : Nat)) ∧ Step w0 l w' (sl ++ r) := by
  obtain ⟨a, c, rfl⟩ := hat.shape
  have S1 := hid (hS.alloc (.cells #[.int .i64 kind, .string text, .slice a fs.length c] 62))
  have hat' := hid hat
  clear hS hat
  go_enter Tryz.func148, Tryz.ntmps148
  unfold itemVal
  go_wp2_with fail
  generalize hw1 : w.alloc (.cells #[.int .i64 kind, .string text, .slice a fs.length c] 62) = w1 at S1 ⊢
  replace S1 := hid (S1.out.less (List.sublist_cons_self _ _))
  clear hw1
  go_loopw [5, 34] (fun n i wr => ∃ k : Nat, k ≤ fs.length ∧ n = .int .i64 (48 + key.size + fieldsCost (fs.take k) : Nat) ∧ i = .int .i64 k ∧ Hid (Step w0 l wr (sl ++ r))) (fun _ i wr => fs.length - (intOf i).toNat)
  case atStart => exact ⟨0, Nat.zero_le _, by simp [fieldsCost], rfl, S1⟩
  case round =>
    obtain ⟨k, hk', rfl, rfl, hS2⟩ := hrel
    have hle := fieldsCost_le fs k
    by_cases hlt : k < fs.length
    · obtain ⟨f, hfk⟩ : ∃ f : ByteArray × ByteArray, fs[k]? = some f := ⟨fs[k], List.getElem?_eq_getElem _⟩
      obtain ⟨g, cap, rest, hsl, hc, hc2, rfl, hrest⟩ := hat'.out.sl.view (by omega)
      injection hsl with h1 h2 h3
      subst h1 h3
      have hb := hS2.out.own.head
      have hgl := block_lt hb
      have hcm := fsCells_name fs k f hfk
      have hlen := fsCells_len fs
      have b0 : wr.cell? ⟨g, k * 2, none⟩ = some (.string f.1) := by
        rw [cells_get hb, List.getElem?_toArray, List.getElem?_append_left (by omega), Nat.mul_comm, hcm.1]
      have b1 : wr.cell? ⟨g, k * 2 + 1, none⟩ = some (.string f.2) := by
        rw [cells_get hb, List.getElem?_toArray, List.getElem?_append_left (by omega), Nat.mul_comm, hcm.2]
      have hsn := fieldsCost_snoc fs k f hfk
      have hle2 := fieldsCost_le fs (k + 1)
      have S3 := hid ((hS2.out.alloc (.cells #[.string f.1, .string f.2] 96)).less (List.sublist_cons_self _ _))
      have hrel : Hid (48 + key.size + fieldsCost (fs.take (k + 1)) = 48 + key.size + fieldsCost (fs.take k) + (16 + f.1.size + f.2.size)) := hid (by omega)
      have hbd : 48 + key.size + fieldsCost (fs.take k) + (16 + f.1.size + f.2.size) ≤ 4611686018427387904 := by omega
      clear hb hcm hlen hsn hle2 hle hfk
      generalize 48 + key.size + fieldsCost (fs.take k) = m at hrel hbd ⊢
      go_wp2_with fail
      go_roundw
      case rel => exact ⟨k + 1, by omega, by rw [hrel.out]; go_num, by go_num, S3⟩
      case measure => simp [intOf]; omega
    · obtain rfl : k = fs.length := by omega
      rw [List.take_length]
      go_wp2_with fail
      go_ret
      exact ⟨rfl, hS2.out⟩

end Go.Proofs.YthfngplckbggpaaGreatDoor

namespace Go.Proofs.YthfngplckbggpaaGreatDoor
open Go Go.RowKit

structure Cell where
  key : ByteArray
  at_ : Nat
  it : Itm
structure Slot where
  it : Itm
  v : Value
  hp : Hp

def slotCells (s : Slot) : List Value := [.int .i64 s.it.kind, .string s.it.text, s.v]
def slotsCells (ss : List Slot) : List Value := ss.flatMap slotCells
def slotsHp (ss : List Slot) : Hp := ss.flatMap Slot.hp
def evCells (es : List (Int × ByteArray)) : List Value := es.flatMap fun e => [.int .i64 e.1, .string e.2]
def frCells (fr : List Nat) : List Value := fr.map fun n : Nat => .int .i64 (n : Int)
def emptySlot : Slot := ⟨zeroItm, .slice none 0 0, []⟩

/-- The parts of a Store. -/
structure SM where
  tb : Nat
  rb : Nat
  xb : Nat
  sv : Value
  fv : Value
  vv : Value
  tl : Hp
  rl : Hp
  xl : Hp
  shp : Hp
  fhp : Hp
  vhp : Hp
  M : KV
  cs : List Cell
  ss : List Slot
  fr : List Nat

abbrev StObj (m : SM) (n bud : Nat) : Obj := .cells #[ptr m.tb, m.sv, m.fv, ptr m.rb, ptr m.xb, .int .i64 n, .int .i64 bud, m.vv] 59 (0, 0)
def SM.rest (m : SM) : Hp := m.tl ++ (m.rl ++ (m.xl ++ (m.shp ++ (m.fhp ++ (m.vhp ++ slotsHp m.ss)))))
def SM.hp (m : SM) (sb n bud : Nat) : Hp := (sb, StObj m n bud) :: m.rest

structure SM.Ok (m : SM) (S : St) : Prop where
  tab : IsTable m.tl m.tb m.M 0
  rcn : IsRecent m.rl m.rb (m.cs.map Cell.key)
  exp : IsExpiry m.xl m.xb S.D
  slots : SliceHp 3 62 m.sv m.ss.length (slotsCells m.ss) m.shp
  free : SliceHp 1 3 m.fv m.fr.length (frCells m.fr) m.fhp
  evs : SliceHp 2 33 m.vv S.ev.length (evCells S.ev) m.vhp
  cells : S.L = m.cs.map fun c => (c.key, c.it)
  num : m.M.Perm (m.cs.map fun c => (c.key, (c.at_ : Int)))
  holds : ∀ c ∈ m.cs, ∃ s, m.ss[c.at_]? = some s ∧ s.it = c.it
  all : (m.fr ++ m.cs.map Cell.at_).Perm (List.range m.ss.length)
  each : ∀ s ∈ m.ss, IsFields s.v s.it.fs s.hp
  few : m.ss.length ≤ 68719476736

/-- At sb lies a Store that is S. -/
def IsStore (l : Hp) (sb : Nat) (S : St) : Prop := ∃ m : SM, l = m.hp sb (bytesOf S.L) S.bud ∧ m.Ok S ∧ Fit S

/-- What the Store's own cells are. -/
structure StCells (w : World) (sb : Nat) (m : SM) (n bud : Nat) : Prop where
  c0 : w.cell? ⟨sb, 0, none⟩ = some (ptr m.tb)
  c1 : w.cell? ⟨sb, 1, none⟩ = some m.sv
  c2 : w.cell? ⟨sb, 2, none⟩ = some m.fv
  c3 : w.cell? ⟨sb, 3, none⟩ = some (ptr m.rb)
  c4 : w.cell? ⟨sb, 4, none⟩ = some (ptr m.xb)
  c5 : w.cell? ⟨sb, 5, none⟩ = some (.int .i64 n)
  c6 : w.cell? ⟨sb, 6, none⟩ = some (.int .i64 bud)
  c7 : w.cell? ⟨sb, 7, none⟩ = some m.vv
  fz : ∀ j, w.frozen? ⟨sb, j, none⟩ = false
theorem stCells {w : World} {sb n bud : Nat} {m : SM} {r : Hp} (h : Own w (m.hp sb n bud ++ r)) : StCells w sb m n bud := by
  have hh : w.heap[sb]? = some (StObj m n bud) := h.left.head
  exact ⟨cells_get hh 0, cells_get hh 1, cells_get hh 2, cells_get hh 3, cells_get hh 4, cells_get hh 5, cells_get hh 6, cells_get hh 7, fun j => cells_free hh j⟩

/-! A part of the Store is turned. -/
theorem hp_sums {m : SM} {sb n bud : Nat} {r : Hp} (f : Nat × Obj → Nat) : ((m.hp sb n bud ++ r).map f).sum = f (sb, StObj m n bud) + (m.tl.map f).sum + (m.rl.map f).sum + (m.xl.map f).sum + (m.shp.map f).sum + (m.fhp.map f).sum + (m.vhp.map f).sum + ((slotsHp m.ss).map f).sum + (r.map f).sum := by
  simp only [SM.hp, SM.rest, List.map_append, List.sum_append, List.map_cons, List.sum_cons, List.cons_append]
  omega
theorem Step.turn {w0 w w' : World} {l A A' B a a' : Hp} (h : Step w0 l w A) (p : ∀ f : Nat × Obj → Nat, (A.map f).sum = (a.map f).sum + (B.map f).sum) (k : Step w a w' a') (q : ∀ f : Nat × Obj → Nat, (A'.map f).sum = (a'.map f).sum + (B.map f).sum) : Step w0 l w' A' :=
  (h.part (a := a) (r := B) (perm_by fun f => by rw [p f, List.map_append, List.sum_append]) k).permR (perm_by fun f => by rw [q f, List.map_append, List.sum_append])

theorem evInfo : (Tryz.prog.info? 33).map (fun i => (i.zero, i.size, i.bytes)) = some (some (.agg #[.int .i64 0, .string ByteArray.empty]), 2, 24) := by kernel_rfl
theorem evCells_len (es : List (Int × ByteArray)) : (evCells es).length = es.length * 2 := by
  induction es with
  | nil => rfl
  | cons e es ih => simp only [evCells, List.flatMap_cons, List.length_append, List.length_cons, List.length_nil] at ih ⊢; omega
theorem evCells_snoc (es : List (Int × ByteArray)) (e : Int × ByteArray) : evCells (es ++ [e]) = evCells es ++ [.int .i64 e.1, .string e.2] := by simp [evCells]

set_option maxRecDepth 100000 in
set_option maxHeartbeats 1000000 in
theorem tell_any {w0 w : World} {l r : Hp} {sb n bud : Nat} {m : SM} {ev : List (Int × ByteArray)} (hS : Step w0 l w (m.hp sb n bud ++ r)) (hev : SliceHp 2 33 m.vv ev.length (evCells ev) m.vhp) (hB : ev.length ≤ 4398046511104) (kind : Int) (key : ByteArray) :
    Calls Tryz.prog 116 #[ptr sb, .int .i64 kind, .string key] w fun e w' => e = .returned (.tuple #[]) ∧
      ∃ vv' vhp', SliceHp 2 33 vv' (ev ++ [(kind, key)]).length (evCells (ev ++ [(kind, key)])) vhp' ∧ Step w0 l w' ({ m with vv := vv', vhp := vhp' }.hp sb n bud ++ r) := by
  obtain ⟨_, _, _, _, _, _, _, c7, fz⟩ := stCells hS.own
  have hsb := block_lt hS.own.left.head
  have S1 := hS.alloc (.cells #[.int .i64 kind, .string key] 33)
  have hvb := S1.own.head
  generalize hw1 : w.alloc (.cells #[.int .i64 kind, .string key] 33) = w1 at S1 hvb
  have S2 := S1.permR (l2 := m.vhp ++ ((w.heap.size, .cells #[.int .i64 kind, .string key] 33 (0, 0)) :: (sb, StObj m n bud) :: (m.tl ++ (m.rl ++ (m.xl ++ (m.shp ++ (m.fhp ++ (slotsHp m.ss ++ r)))))))) (perm_by fun f => by
    simp only [SM.hp, SM.rest, List.map_append, List.sum_append, List.map_cons, List.sum_cons, List.cons_append]
    omega)
  obtain ⟨v', w2, sl', hrun, hsl', S3, _⟩ := run_append (P := Tryz.prog) (ty := 29) Tryz.underlying29 Tryz.underlying29 evInfo rfl (by decide) S2 hev
    ⟨w.heap.size, 0, none⟩ 1 1 [.int .i64 kind, .string key] rfl (by
      intro j u hu
      rw [addr_add, cells_get hvb]
      simpa using hu) (by simp [Value.oneCell']) (by omega) (by omega) (by unfold maxLen; omega)
  subst hw1
  obtain ⟨a', c', rfl, _, _⟩ := hsl'.form
  have hb3 := S3.own.right.tail.head
  obtain ⟨x7, hx7⟩ : ∃ x, w2.cell? ⟨sb, 7, none⟩ = some x := ⟨_, cells_get hb3 7⟩
  have fz2 : ∀ j, w2.frozen? ⟨sb, j, none⟩ = false := fun j => cells_free hb3 j
  have S4 := (S3.pick (l2 := (sb, StObj m n bud) :: (sl' ++ (m.tl ++ (m.rl ++ (m.xl ++ (m.shp ++ (m.fhp ++ (slotsHp m.ss ++ r)))))))) (m := [(w.heap.size, .cells #[.int .i64 kind, .string key] 33 (0, 0))]) (perm_by fun f => by
    simp only [List.map_append, List.sum_append, List.map_cons, List.sum_cons, List.cons_append, List.map_nil, List.sum_nil]
    omega)).set 7 (.slice a' (ev.length + 1) c')
  have S5 := S4.permR (l2 := { m with vv := .slice a' (ev.length + 1) c', vhp := sl' }.hp sb n bud ++ r) (perm_by fun f => by
    rw [hp_sums]
    simp only [List.map_append, List.sum_append, List.map_cons, List.sum_cons, List.cons_append, List.map_nil, List.sum_nil]
    show f (sb, StObj { m with vv := .slice a' (ev.length + 1) c', vhp := sl' } n bud) + _ = _
    omega)
  have hfin := hid (show ∃ vv' vhp', SliceHp 2 33 vv' (ev ++ [(kind, key)]).length (evCells (ev ++ [(kind, key)])) vhp' ∧ Step w0 l (w2.setCell ⟨sb, 7, none⟩ (.slice a' (ev.length + 1) c')) ({ m with vv := vv', vhp := vhp' }.hp sb n bud ++ r) from ⟨.slice a' (ev.length + 1) c', sl', by rw [evCells_snoc, List.length_append]; exact hsl', S5⟩)
  obtain ⟨a7, n7, h7⟩ : ∃ a c, m.vv = .slice a ev.length c := by obtain ⟨a, c, h, _⟩ := hev.form; exact ⟨a, c, h⟩
  rw [h7] at c7 hrun
  replace hrun := hid hrun
  clear hev hS S1 S2 S3 S4 S5 hvb hb3 hsl' h7
  go_enter Tryz.func116, Tryz.ntmps116
  go_wp2_with (at_builtin; refine wpList_append_run rfl _ _ _ _ rfl _ _ rfl rfl hrun.out ?_)
  go_end0
  exact ⟨rfl, hfin.out⟩

theorem bytes_any {w : World} {r : Hp} {sb n bud : Nat} {m : SM} (ho : Own w (m.hp sb n bud ++ r)) :
    Calls Tryz.prog 15 #[ptr sb] w fun e w' => e = .returned (.int .i64 n) ∧ w' = w := by
  obtain ⟨_, _, _, _, _, c5, _, _, _⟩ := stCells ho
  clear ho
  go_enter Tryz.func15, Tryz.ntmps15
  go_wp2_with fail
  go_ret
  exact ⟨rfl, rfl⟩

end Go.Proofs.YthfngplckbggpaaGreatDoor

namespace Go.Proofs.YthfngplckbggpaaGreatDoor
open Go Go.RowKit

def cdel (cs : List Cell) (key : ByteArray) : List Cell := cs.filter fun c => decide (c.key ≠ key)

theorem look_mem {M : KV} {k : ByteArray} {n : Int} (h : look M k = some n) : (k, n) ∈ M := by
  simp only [look, Option.map_eq_some_iff] at h
  obtain ⟨p, hp, rfl⟩ := h
  have h1 := List.mem_of_find?_eq_some hp
  have h2 := List.find?_some hp
  simp only [decide_eq_true_eq] at h2
  subst h2; exact h1

theorem SM.Ok.keys {m : SM} {S : St} (h : m.Ok S) : S.L.map Prod.fst = m.cs.map Cell.key := by rw [h.cells]; simp [Function.comp_def]
theorem SM.Ok.mkeys {m : SM} {S : St} (h : m.Ok S) (k : ByteArray) : k ∈ m.M.map Prod.fst ↔ k ∈ S.L.map Prod.fst := by
  rw [h.keys, ((h.num.map Prod.fst).mem_iff)]; simp [Function.comp_def]
theorem SM.Ok.len {m : SM} {S : St} (h : m.Ok S) : m.M.length = S.L.length := by rw [h.num.length_eq, h.cells]; simp
theorem SM.Ok.lost {m : SM} {S : St} (h : m.Ok S) {k : ByteArray} (hk : look m.M k = none) : mlook S.L k = none := by
  cases hl : mlook S.L k with
  | none => rfl
  | some it => exact absurd ((h.mkeys k).2 (mlook_iff.1 (by rw [hl]; rfl))) (look_none.1 hk)
theorem SM.Ok.found {m : SM} {S : St} (h : m.Ok S) (hf : Fit S) {k : ByteArray} {i : Int} (hk : look m.M k = some i) :
    ∃ c s, c ∈ m.cs ∧ c.key = k ∧ i = c.at_ ∧ m.ss[c.at_]? = some s ∧ s.it = c.it ∧ mlook S.L k = some c.it := by
  have hm := (h.num.mem_iff).1 (look_mem hk)
  obtain ⟨c, hc, he⟩ := List.mem_map.1 hm
  simp only [Prod.mk.injEq] at he
  obtain ⟨s, hs, hi⟩ := h.holds c hc
  refine ⟨c, s, hc, he.1, he.2.symm, hs, hi, mlook_mem hf.nd ?_⟩
  rw [h.cells]
  exact List.mem_map.2 ⟨c, hc, by rw [he.1]⟩

theorem cs_nodup {m : SM} {S : St} (h : m.Ok S) (hf : Fit S) : (m.cs.map Cell.key).Nodup := by rw [← h.keys]; exact hf.nd
theorem cs_at_nodup {m : SM} {S : St} (h : m.Ok S) : (m.cs.map Cell.at_).Nodup :=
  (List.nodup_append.1 (h.all.nodup_iff.2 List.nodup_range)).2.1
theorem cs_split {cs : List Cell} {c : Cell} (hn : (cs.map Cell.key).Nodup) (hc : c ∈ cs) : cs.Perm (c :: cdel cs c.key) := by
  induction cs with
  | nil => cases hc
  | cons d cs ih =>
    simp only [List.map_cons, List.nodup_cons] at hn
    rcases List.mem_cons.1 hc with rfl | hc
    · have : cdel (c :: cs) c.key = cs := by
        simp only [cdel, List.filter_cons, ne_eq, not_true, decide_false, Bool.false_eq_true, if_false]
        rw [List.filter_eq_self]
        intro d hd
        have : d.key ≠ c.key := fun e => hn.1 (List.mem_map.2 ⟨d, hd, e⟩)
        simpa using this
      rw [this]
    · have hne : d.key ≠ c.key := fun e => hn.1 (List.mem_map.2 ⟨c, hc, e.symm⟩)
      have : cdel (d :: cs) c.key = d :: cdel cs c.key := by simp [cdel, hne]
      rw [this]
      exact ((ih hn.2 hc).cons d).trans (List.Perm.swap _ _ _)
theorem at_ne {cs : List Cell} {c d : Cell} (hn : (cs.map Cell.key).Nodup) (ha : (cs.map Cell.at_).Nodup) (hc : c ∈ cs) (hd : d ∈ cdel cs c.key) : d.at_ ≠ c.at_ := by
  have hp := (cs_split hn hc).map Cell.at_
  have := hp.nodup_iff.1 ha
  simp only [List.map_cons, List.nodup_cons] at this
  exact fun e => this.1 (e ▸ List.mem_map_of_mem hd)
theorem kdel_map (cs : List Cell) (k : ByteArray) : kdel (cs.map Cell.key) k = (cdel cs k).map Cell.key := by
  simp only [kdel, cdel, List.filter_map]; rfl
theorem mdel_map (cs : List Cell) (k : ByteArray) : mdel (cs.map fun c => (c.key, c.it)) k = (cdel cs k).map fun c => (c.key, c.it) := by
  simp only [mdel, cdel, List.filter_map]; rfl
theorem without_map (cs : List Cell) (k : ByteArray) : without (cs.map fun c => (c.key, (c.at_ : Int))) k = (cdel cs k).map fun c => (c.key, (c.at_ : Int)) := by
  simp only [without, cdel, List.filter_map]; rfl

theorem slotsCells_len (ss : List Slot) : (slotsCells ss).length = ss.length * 3 := by
  induction ss with
  | nil => rfl
  | cons s ss ih => simp only [slotsCells, List.flatMap_cons, List.length_append, slotCells, List.length_cons, List.length_nil] at ih ⊢; omega
theorem slotsCells_cons (s : Slot) (ss : List Slot) : slotsCells (s :: ss) = .int .i64 s.it.kind :: .string s.it.text :: s.v :: slotsCells ss := rfl
theorem slotsCells_at : ∀ (ss : List Slot) (i : Nat) (s : Slot), ss[i]? = some s → (slotsCells ss)[i * 3]? = some (.int .i64 s.it.kind) ∧ (slotsCells ss)[i * 3 + 1]? = some (.string s.it.text) ∧ (slotsCells ss)[i * 3 + 2]? = some s.v
  | [], i, s, h => by simp at h
  | t :: ss, 0, s, h => by simp at h; subst h; exact ⟨rfl, rfl, rfl⟩
  | t :: ss, i + 1, s, h => by
    have := slotsCells_at ss i s (by simpa using h)
    rw [slotsCells_cons]
    simpa only [show (i + 1) * 3 = i * 3 + 1 + 1 + 1 by omega, List.getElem?_cons_succ, show i * 3 + 1 + 1 + 1 + 1 = (i * 3 + 1) + 1 + 1 + 1 by omega, show i * 3 + 1 + 1 + 1 + 2 = (i * 3 + 2) + 1 + 1 + 1 by omega] using this
theorem slotsCells_set : ∀ (ss : List Slot) (i : Nat) (s : Slot), slotsCells (ss.set i s) = (((slotsCells ss).set (i * 3) (.int .i64 s.it.kind)).set (i * 3 + 1) (.string s.it.text)).set (i * 3 + 2) s.v
  | [], i, s => rfl
  | t :: ss, 0, s => rfl
  | t :: ss, i + 1, s => by
    simp only [List.set_cons_succ, slotsCells_cons, slotsCells_set ss i s, show (i + 1) * 3 = i * 3 + 1 + 1 + 1 by omega, show i * 3 + 1 + 1 + 1 + 1 = (i * 3 + 1) + 1 + 1 + 1 by omega, show i * 3 + 1 + 1 + 1 + 2 = (i * 3 + 2) + 1 + 1 + 1 by omega]
theorem slotsCells_snoc (ss : List Slot) (s : Slot) : slotsCells (ss ++ [s]) = slotsCells ss ++ slotCells s := by simp [slotsCells]
/-- What the slots own, with one of them apart. -/
theorem slotsHp_sum (ss : List Slot) (i : Nat) (s : Slot) (h : ss[i]? = some s) (f : Nat × Obj → Nat) : ((slotsHp ss).map f).sum = (s.hp.map f).sum + ((slotsHp (ss.set i emptySlot)).map f).sum := by
  induction ss generalizing i with
  | nil => simp at h
  | cons t ss ih =>
    cases i with
    | zero =>
      simp at h; subst h
      simp [slotsHp, emptySlot]
    | succ i =>
      have := ih i (by simpa using h)
      simp only [slotsHp, List.flatMap_cons, List.set_cons_succ, List.map_append, List.sum_append] at this ⊢
      omega
theorem slotsHp_set (ss : List Slot) (i : Nat) (s : Slot) (hi : i < ss.length) (f : Nat × Obj → Nat) : ((slotsHp (ss.set i s)).map f).sum = (s.hp.map f).sum + ((slotsHp (ss.set i emptySlot)).map f).sum := by
  have := slotsHp_sum (ss.set i s) i s (by simp [hi]) f
  rwa [List.set_set] at this

theorem SM.Ok.gone {m : SM} {S : St} (h : m.Ok S) (hf : Fit S) {c : Cell} (hc : c ∈ m.cs) {s : Slot} (hs : m.ss[c.at_]? = some s) {m' : SM}
    (htab : IsTable m'.tl m'.tb (without m.M c.key) 0) (hrcn : IsRecent m'.rl m'.rb (kdel (m.cs.map Cell.key) c.key)) (hexp : IsExpiry m'.xl m'.xb (mdel S.D c.key))
    (hslots : SliceHp 3 62 m'.sv m.ss.length (slotsCells (m.ss.set c.at_ emptySlot)) m'.shp) (hfree : SliceHp 1 3 m'.fv (m.fr.length + 1) (frCells (m.fr ++ [c.at_])) m'.fhp) (hevs : SliceHp 2 33 m'.vv S.ev.length (evCells S.ev) m'.vhp)
    (eM : m'.M = without m.M c.key) (ecs : m'.cs = cdel m.cs c.key) (ess : m'.ss = m.ss.set c.at_ emptySlot) (efr : m'.fr = m.fr ++ [c.at_]) :
    m'.Ok { S with L := mdel S.L c.key, D := mdel S.D c.key } := by
  have hkn := cs_nodup h hf
  have han := cs_at_nodup h
  have hi := (List.getElem?_eq_some_iff.1 hs).1
  refine ⟨by rw [eM]; exact htab, by rw [ecs, ← kdel_map]; exact hrcn, hexp, by rw [ess, List.length_set]; exact hslots, by rw [efr, List.length_append]; exact hfree, hevs, ?_, ?_, ?_, ?_, ?_, by rw [ess, List.length_set]; exact h.few⟩
  · rw [ecs, ← mdel_map, ← h.cells]
  · rw [eM, ecs, ← without_map]
    exact h.num.filter _
  · intro d hd
    rw [ecs] at hd
    obtain ⟨t, ht, hte⟩ := h.holds d (List.mem_filter.1 hd).1
    refine ⟨t, ?_, hte⟩
    rw [ess, List.getElem?_set_ne (Ne.symm (at_ne hkn han hc hd))]
    exact ht
  · rw [efr, ecs, ess, List.length_set]
    refine List.Perm.trans ?_ h.all
    rw [List.append_assoc]
    exact List.Perm.append_left _ (((cs_split hkn hc).map Cell.at_).symm)
  · intro t ht
    rw [ess] at ht
    rcases List.mem_or_eq_of_mem_set ht with ht | rfl
    · exact h.each t ht
    · exact ⟨.nil, fun _ => rfl⟩

end Go.Proofs.YthfngplckbggpaaGreatDoor
