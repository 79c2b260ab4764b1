/-
  The plain law of a hash that is alone in its store: what is set is got, field by field; what goes isn't there. No program in sight.
  Calls of fields.Do at a store of one hash: their words lie in a new block, which is let go (printed by gen_fcall.py).
  nearhandlaw19: fieldsAlive.
-/
import Derived.Test.YtkmjlpmepggciaaGreatDoorPFDoes
import Derived.Test.YtkmjlpmepggciaaGreatDoorPOne
import Derived.Test.YtkmjlpmepggciaaGreatDoorPFAll
import Derived.Test.YtkmjlpmepggciaaGreatDoorPFDoHSET
import Derived.Test.YtkmjlpmepggciaaGreatDoorPFDoHEXISTS
import Derived.Test.YtkmjlpmepggciaaGreatDoorPFAdd
set_option linter.unusedVariables false
set_option linter.unusedSimpArgs false
namespace Go.Proofs.YtkmjlpmepggciaaGreatDoor
open Go

abbrev kh : ByteArray := ⟨#[104]⟩
theorem kh_size : kh.size = 1 := rfl

/-- Few fields, in order, none long. -/
structure HFit (n : Nat) (fs : Fs) : Prop where
  rise : Rise fs
  len : fs.length ≤ n
  small : ∀ f ∈ fs, f.1.size ≤ 500 ∧ f.2.size ≤ 500
theorem HFit.nil (n : Nat) : HFit n [] := ⟨List.Pairwise.nil, Nat.zero_le _, fun f hf => by cases hf⟩
theorem HFit.mono {n m : Nat} {fs : Fs} (h : HFit n fs) (hm : n ≤ m) : HFit m fs := ⟨h.rise, Nat.le_trans h.len hm, h.small⟩

theorem fput_mem {fs : Fs} {name text : ByteArray} {f : ByteArray × ByteArray} (h : f ∈ fput fs name text) : f = (name, text) ∨ f ∈ fs := by
  rw [fput_parts, List.mem_append, List.mem_cons] at h
  rcases h with h | h | h
  · exact .inr (List.mem_of_mem_take h)
  · exact .inl h
  · exact .inr (List.mem_of_mem_drop h)
theorem fdel_mem {fs : Fs} {name : ByteArray} {f : ByteArray × ByteArray} (h : f ∈ fdel fs name) : f ∈ fs := by
  unfold fdel at h
  split at h
  · exact (List.eraseIdx_sublist _ _).subset h
  · exact h
theorem HFit.fput {n : Nat} {fs : Fs} (h : HFit n fs) {name text : ByteArray} (h1 : name.size ≤ 500) (h2 : text.size ≤ 500) : HFit (n + 1) (fput fs name text) := by
  refine ⟨h.rise.fput name text, ?_, fun f hf => ?_⟩
  · have := h.len
    rw [len_fput]; split <;> omega
  · rcases fput_mem hf with rfl | hf
    · exact ⟨h1, h2⟩
    · exact h.small f hf
theorem HFit.fdel {n : Nat} {fs : Fs} (h : HFit n fs) (name : ByteArray) : HFit n (fdel fs name) :=
  ⟨h.rise.fdel name, by have := h.len; rw [len_fdel]; omega, fun f hf => h.small f (fdel_mem hf)⟩

theorem fcost_le {fs : Fs} (h : ∀ f ∈ fs, f.1.size ≤ 500 ∧ f.2.size ≤ 500) : fieldsCost fs ≤ 1016 * fs.length := by
  induction fs with
  | nil => simp [fieldsCost]
  | cons f fs ih =>
    have h1 := h f (by simp)
    have h2 := ih (fun g hg => h g (by simp [hg]))
    simp only [fieldsCost, List.map_cons, List.sum_cons, List.length_cons] at h2 ⊢
    omega
theorem cost_hitm {fs : Fs} (h : HFit 20 fs) : cost kh (hitm fs) ≤ 20369 := by
  have e : cost kh (hitm fs) = 48 + kh.size + fieldsCost fs := rfl
  have := fcost_le h.small
  have := h.len
  rw [e, kh_size]; omega
theorem hitm_right {fs : Fs} (h : HFit 20 fs) (h0 : 1 ≤ fs.length) : rightB (hitm fs) :=
  .inr ⟨rfl, rfl, h.rise, h0, Nat.le_trans h.len (by decide), fun f hf => by have := h.small f hf; omega⟩

/-- A store of a hash alone; none without fields. -/
def hst : Fs → List (Int × ByteArray) → St
  | [], ev => ⟨[], [], ev, 1000000⟩
  | f :: fs, ev => one kh (hitm (f :: fs)) [] ev 1000000
/-- What is known of its key. -/
def hitmOf : Fs → Itm
  | [] => zeroItm
  | f :: fs => hitm (f :: fs)
theorem hitmOf_fs (fs : Fs) : (hitmOf fs).fs = fs := by cases fs <;> rfl
theorem hitmOf_kind (fs : Fs) : ((hitmOf fs).kind == 1) = false := by cases fs <;> rfl
theorem hitmOf_has {fs : Fs} {name : ByteArray} (h : has fs name = true) : (hitmOf fs).kind = 2 ∧ (hitmOf fs).text = ByteArray.empty := by
  cases fs with
  | nil => simp [has] at h
  | cons f fs => exact ⟨rfl, rfl⟩
theorem hst_due (fs : Fs) (ev : List (Int × ByteArray)) : (hst fs ev).due kh 0 = hst fs ev := by
  cases fs with
  | nil => rfl
  | cons f fs => exact one_due_nil 0
theorem hst_get (fs : Fs) (ev : List (Int × ByteArray)) : (hst fs ev).get kh 0 = hst fs ev := by
  cases fs with
  | nil => rfl
  | cons f fs => exact one_get (one_due_nil 0)
theorem hst_look (fs : Fs) (ev : List (Int × ByteArray)) : ((hst fs ev).look kh 0).getD zeroItm = hitmOf fs := by
  cases fs with
  | nil => rfl
  | cons f fs => rw [show hst (f :: fs) ev = one kh (hitm (f :: fs)) [] ev 1000000 from rfl, one_look (one_due_nil 0)]; rfl
theorem hst_bud (fs : Fs) (ev : List (Int × ByteArray)) : (hst fs ev).bud = 1000000 := by cases fs <;> rfl
theorem hst_tight {fs : Fs} (ev : List (Int × ByteArray)) (h : HFit 20 fs) : Tight (hst fs ev) := by
  cases fs with
  | nil => exact Nat.zero_le _
  | cons f fs => exact one_tight (Nat.le_trans (cost_hitm h) (by decide))
theorem hst_load (fs : Fs) (ev : List (Int × ByteArray)) : (hst fs ev).load ≤ ev.length + 1 := by
  cases fs with
  | nil => exact Nat.le_succ _
  | cons f fs => exact Nat.le_refl _
theorem hst_new : newSt 1000000 = hst [] [] := by
  have : (max 0 (min (1000000 : Int) 1000000000000)).toNat = 1000000 := by decide
  rw [newSt, this]; rfl
theorem hst_putE (fs : Fs) (ev : List (Int × ByteArray)) {gs : Fs} (h : HFit 20 gs) : (hst fs ev).putE kh (hitm gs) = 0 := by
  have h1 : ¬ (512 < kh.size ∨ ((hitm gs).kind = 1 ∧ 4096 < (hitm gs).text.size)) := by
    rintro (h | ⟨h, _⟩)
    · rw [kh_size] at h; omega
    · have : (hitm gs).kind = 2 := rfl
      rw [this] at h; omega
  have := cost_hitm h
  rw [St.putE, if_neg h1, hst_bud, if_neg (by omega)]
theorem hst_put (fs : Fs) (ev : List (Int × ByteArray)) {gs : Fs} (h : HFit 20 gs) (h0 : 0 < gs.length) : (hst fs ev).putG kh (hitm gs) true 0 = hst gs (ev ++ [(1, kh)]) := by
  have hc : cost kh (hitm gs) ≤ 1000000 := Nat.le_trans (cost_hitm h) (by decide)
  have e : hst gs (ev ++ [(1, kh)]) = one kh (hitm gs) [] (ev ++ [(1, kh)]) 1000000 := by
    cases gs with
    | nil => simp at h0
    | cons g gs => rfl
  rw [St.putG, if_pos (hst_putE fs ev h), e]
  cases fs with
  | nil => exact no_put hc true
  | cons f fs => exact one_put (k := kh) (it := hitm (f :: fs)) (D := []) (one_due_nil 0) hc true
theorem hst_keep (fs : Fs) (ev : List (Int × ByteArray)) {gs : Fs} (h : HFit 20 gs) (h0 : 0 < gs.length) (n : Int) : fKeep (hst fs ev) 0 kh (hitm gs) n = (hst gs (ev ++ [(1, kh)]), lfInt n) := by
  rw [fKeep, hst_put fs ev h h0, hst_putE fs ev h, if_pos rfl]
theorem fput_pos {fs : Fs} {name s : ByteArray} : 0 < (fput fs name s).length := by
  rw [fput_parts, List.length_append, List.length_cons]; omega
theorem hst_set (fs : Fs) (ev : List (Int × ByteArray)) {name s : ByteArray} (h : HFit 20 (fput fs name s)) : fSet (hst fs ev) 0 kh fs name s = (hst (fput fs name s) (ev ++ [(1, kh)]), lfInt (if has fs name then 0 else 1)) := by
  rw [fSet, hst_keep fs ev h fput_pos]
theorem hst_drop (fs : Fs) (ev : List (Int × ByteArray)) (h : HFit 20 fs) (name : ByteArray) : ∃ (ev' : List (Int × ByteArray)) (n : Int), ev'.length ≤ ev.length + 1 ∧ fDrop (hst fs ev) 0 kh fs name = (hst (fdel fs name) ev', lfInt n) := by
  rw [fDrop]
  cases hh : has fs name with
  | false => exact ⟨ev, 0, Nat.le_succ _, by rw [if_neg (by simp), fdel_none hh]⟩
  | true =>
    by_cases h1 : fs.length = 1
    · have hd : fdel fs name = [] := List.length_eq_zero_iff.1 (by rw [len_fdel, hh, h1]; rfl)
      refine ⟨ev ++ [(2, kh)], 1, by simp, ?_⟩
      rw [if_pos rfl, if_pos h1, hd, hst_due]
      cases fs with
      | nil => simp at h1
      | cons f fs => rfl
    · refine ⟨ev ++ [(1, kh)], 1, by simp, ?_⟩
      have := has_len hh
      rw [if_pos rfl, if_neg h1, hst_keep fs ev (h.fdel name) (by rw [len_fdel, hh]; simp only [if_true]; omega)]

/-- Fields put one behind the other. -/
def fputs (l : List ByteArray) (s : ByteArray) : Fs := l.foldl (fun fs n => fput fs n s) []
theorem fputs_snoc (l : List ByteArray) (n s : ByteArray) : fputs (l ++ [n]) s = fput (fputs l s) n s := by simp [fputs]
theorem fputs_rise (l : List ByteArray) (s : ByteArray) : ∀ fs : Fs, Rise fs → Rise (l.foldl (fun fs n => fput fs n s) fs) := by
  induction l with
  | nil => exact fun fs h => h
  | cons n l ih => exact fun fs h => ih _ (h.fput n s)
theorem fputs_mem (l : List ByteArray) (s x : ByteArray) : ∀ fs : Fs, Rise fs → (x ∈ (l.foldl (fun fs n => fput fs n s) fs).map Prod.fst ↔ x ∈ l ∨ x ∈ fs.map Prod.fst) := by
  induction l with
  | nil => intro fs _; simp
  | cons n l ih =>
    intro fs h
    rw [List.foldl_cons, ih _ (h.fput n s), mem_fput h, List.mem_cons]
    constructor
    · rintro (h | h | h) <;> simp [h]
    · rintro ((h | h) | h) <;> simp [h]
/-- Is a name among them? -/
def among (l : List ByteArray) (x : ByteArray) : Bool := l.any fun y => decide (y = x)
theorem among_iff (l : List ByteArray) (x : ByteArray) : among l x = true ↔ x ∈ l := by
  simp only [among, List.any_eq_true, decide_eq_true_eq]
  exact ⟨fun ⟨y, h, e⟩ => e ▸ h, fun h => ⟨x, h, rfl⟩⟩
theorem fputs_has (l : List ByteArray) (s x : ByteArray) : has (fputs l s) x = among l x := by
  have hr : Rise (fputs l s) := fputs_rise l s [] List.Pairwise.nil
  have hm := fputs_mem l s x [] List.Pairwise.nil
  have hi := has_iff hr x
  have ha := among_iff l x
  have e : has (fputs l s) x = true ↔ among l x = true := by
    rw [ha, hi, show fputs l s = l.foldl (fun fs n => fput fs n s) [] from rfl, hm]
    simp
  rw [Bool.eq_iff_iff]; exact e
theorem fputs_fit (s : ByteArray) (hs : s.size ≤ 500) (l : List ByteArray) (h : ∀ n ∈ l, n.size ≤ 500) : ∀ (k : Nat) (fs : Fs), HFit k fs → HFit (k + l.length) (l.foldl (fun fs n => fput fs n s) fs) := by
  induction l with
  | nil => exact fun k fs hf => hf
  | cons n l ih =>
    intro k fs hf
    have := ih (fun m hm => h m (by simp [hm])) (k + 1) _ (hf.fput (h n (by simp)) hs)
    rw [List.length_cons, List.foldl_cons]
    exact this.mono (by omega)

/-- Fields taken out one behind the other. -/
def fdels (fs : Fs) (l : List ByteArray) : Fs := l.foldl fdel fs
theorem fdels_mem (l : List ByteArray) (x : ByteArray) : ∀ fs : Fs, Rise fs → (x ∈ (fdels fs l).map Prod.fst ↔ x ∉ l ∧ x ∈ fs.map Prod.fst) := by
  induction l with
  | nil => intro fs _; simp [fdels]
  | cons n l ih =>
    intro fs h
    rw [fdels, List.foldl_cons, ← fdels, ih _ (h.fdel n), mem_fdel h, List.mem_cons, not_or]
    constructor
    · rintro ⟨a, b, c⟩; exact ⟨⟨b, a⟩, c⟩
    · rintro ⟨⟨b, a⟩, c⟩; exact ⟨a, b, c⟩
theorem fdels_fit {n : Nat} (l : List ByteArray) : ∀ fs : Fs, HFit n fs → HFit n (fdels fs l) := by
  induction l with
  | nil => exact fun fs h => h
  | cons x l ih => exact fun fs h => ih _ (h.fdel x)
theorem fdels_snoc (fs : Fs) (l : List ByteArray) (n : ByteArray) : fdels fs (l ++ [n]) = fdel (fdels fs l) n := by simp [fdels]
theorem fdels_all (l : List ByteArray) (s : ByteArray) : fdels (fputs l s) l = [] := by
  have hr : Rise (fputs l s) := fputs_rise l s [] List.Pairwise.nil
  rw [List.eq_nil_iff_forall_not_mem]
  intro f hf
  have h1 := (fdels_mem l f.1 _ hr).1 (List.mem_map.2 ⟨f, hf, rfl⟩)
  rcases (fputs_mem l s f.1 [] List.Pairwise.nil).1 h1.2 with h2 | h2
  · exact h1.1 h2
  · simp at h2
theorem fdel_has {fs : Fs} (hr : Rise fs) (name : ByteArray) : has (fdel fs name) name = false := by
  cases hh : has (fdel fs name) name with
  | false => rfl
  | true =>
    have := (mem_fdel hr name name).1 ((has_iff (hr.fdel name) name).1 hh)
    exact absurd rfl this.1

/-- The order of bytes, as a comparison sees it. -/
theorem bytesLess_of : ∀ a b : List UInt8, Lib.compareBytes a b < 0 → Op.bytesLess a b = true
  | [], [], h => by simp [Lib.compareBytes] at h
  | [], _ :: _, _ => rfl
  | _ :: _, [], h => by simp [Lib.compareBytes] at h
  | a :: s, b :: t, h => by
    unfold Lib.compareBytes at h
    unfold Op.bytesLess
    by_cases h1 : a < b
    · simp [h1]
    · by_cases h2 : b < a
      · simp [h1, h2] at h
      · simp only [h1, h2, if_false] at h
        have e : a = b := UInt8.le_antisymm (UInt8.not_lt.1 h2) (UInt8.not_lt.1 h1)
        simp [e, bytesLess_of s t h]
theorem ncmp_less {a b : ByteArray} (h : ncmp a b < 0) : Op.bytesLess a.toList b.toList = true := by
  rw [ByteArray.toList_eq, ByteArray.toList_eq]
  exact bytesLess_of _ _ h

end Go.Proofs.YtkmjlpmepggciaaGreatDoor

namespace Go.Proofs.YtkmjlpmepggciaaGreatDoor
open Go Go.RowKit

def spHSET : Sp := ⟨⟨#[72, 83, 69, 84]⟩, 2, 4, 64, 1, 1, 1⟩
def spHGET : Sp := ⟨⟨#[72, 71, 69, 84]⟩, 1, 3, 3, 1, 1, 1⟩
def spHDEL : Sp := ⟨⟨#[72, 68, 69, 76]⟩, 2, 3, 64, 1, 1, 1⟩
def spHGETALL : Sp := ⟨⟨#[72, 71, 69, 84, 65, 76, 76]⟩, 1, 2, 2, 1, 1, 1⟩
def spHLEN : Sp := ⟨⟨#[72, 76, 69, 78]⟩, 1, 2, 2, 1, 1, 1⟩
def spHEXISTS : Sp := ⟨⟨#[72, 69, 88, 73, 83, 84, 83]⟩, 1, 3, 3, 1, 1, 1⟩
def spHINCRBY : Sp := ⟨⟨#[72, 73, 78, 67, 82, 66, 89]⟩, 2, 4, 4, 1, 1, 1⟩
theorem fc_HSET {n s : ByteArray} : wcheck [wHSET, kh, n, s] = (spHSET, ByteArray.empty) := by kernel_rfl
theorem fc_HGET {n : ByteArray} : wcheck [wHGET, kh, n] = (spHGET, ByteArray.empty) := by kernel_rfl
theorem fc_HDEL {n : ByteArray} : wcheck [wHDEL, kh, n] = (spHDEL, ByteArray.empty) := by kernel_rfl
theorem fc_HEXISTS {n : ByteArray} : wcheck [wHEXISTS, kh, n] = (spHEXISTS, ByteArray.empty) := by kernel_rfl
theorem fc_HLEN : wcheck [wHLEN, kh] = (spHLEN, ByteArray.empty) := by kernel_rfl
theorem fc_HGETALL : wcheck [wHGETALL, kh] = (spHGETALL, ByteArray.empty) := by kernel_rfl
theorem fc_HINCRBY {n s : ByteArray} : wcheck [wHINCRBY, kh, n, s] = (spHINCRBY, ByteArray.empty) := by kernel_rfl

/-- What a call of fields.Do answers that has no list, and what it leaves. -/
def FCall (w0 : World) (r : Hp) (sb : Nat) (T : St) (kd : Int) (tx : ByteArray) (nn : Int) (e : Ending) (w' : World) : Prop :=
  ∃ sa sc l', e = .returned (.tuple #[.agg #[.int .i64 kd, .string tx, .int .i64 nn, .float .f64 0, .bool false, .slice sa 0 sc], .bool true]) ∧ IsStore l' sb T ∧ Step w0 [] w' (l' ++ r)
theorem FDoEnd.call {w0 w' : World} {r : Hp} {p : Nat × Obj} {sb : Nat} {T : St} {kd : Int} {tx : ByteArray} {nn : Int} {e : Ending} (h : FDoEnd w0 (p :: r) sb T kd tx nn [] e w') : FCall w0 r sb T kd tx nn e w' := by
  obtain ⟨sa, sc, vl, l', rfl, _, h1, h2⟩ := h
  exact ⟨sa, sc, l', rfl, h1, h2.pick (l2 := l' ++ r) (m := vl ++ [p]) (perm_by fun f => by simp only [List.map_append, List.sum_append, List.map_cons, List.sum_cons, List.map_nil, List.sum_nil]; omega)⟩
theorem AnsPost.fend {w0 w' : World} {vl l2 R : Hp} {sb : Nat} {S : St} {a : Lf} {e : Ending} (hx : IsStore l2 sb S) (h : AnsPost w0 (vl ++ (l2 ++ R)) (lfVal a) e w') : FEnd w0 R sb S a.kind a.text a.n [] e w' := by
  obtain ⟨rfl, h2⟩ := h
  exact FEnd.leaf ⟨rfl, l2, hx, h2.pick (l2 := l2 ++ R) (m := vl) (perm_by fun f => by simp only [List.map_append, List.sum_append]; omega)⟩
theorem Step.front {w0 w : World} {l2 vl R : Hp} (h : Step w0 [] w (l2 ++ (vl ++ R))) : Step w0 [] w (vl ++ (l2 ++ R)) :=
  h.permR (perm_by fun f => by simp only [List.map_append, List.sum_append]; omega)

theorem fcall_HSET {w0 w : World} {l r : Hp} {sb : Nat} {fs : Fs} {ev : List (Int × ByteArray)} {name s : ByteArray} (hS : Step w0 [] w (l ++ r)) (hG : Glob w0) (hX : IsStore l sb (hst fs ev)) (hF : HFit 20 fs) (hN : HFit 20 (fput fs name s)) (he : ev.length ≤ 1000) (h1 : name.size ≤ 500) (h2 : s.size ≤ 500) :
    Calls Tryz.prog 13 #[ptr sb, .int .i64 0, .slice (some ⟨w.heap.size, 0, none⟩) 4 4] (w.alloc (WsObj [wHSET, kh, name, s])) (FCall w0 r sb (hst (fput fs name s) (ev ++ [(1, kh)])) 3 ByteArray.empty (if has fs name then 0 else 1)) := by
  have hl := hst_load fs ev
  have hlen := hF.len
  have C := Ctx.call hS hG hX (hst_tight ev hF) (by omega) [wHSET, kh, name, s] (by simp only [List.forall_mem_cons, List.not_mem_nil, false_implies, implies_true, and_true]; exact ⟨by decide, by decide, by omega, by omega⟩) (by simp)
  refine (fdo_HSET C spHSET fc_HSET does_HSET 0 (by rw [hst_look]; exact hitmOf_kind fs) 4 (.inr ⟨rfl, by simp⟩) (by decide) (hst (fput fs name s) (ev ++ [(1, kh)])) 3 ByteArray.empty (if has fs name then 0 else 1) [] (fun w' l2 vl R v ar hs hx hf ha har => ?_)).mono fun _ _ h => h.call
  rw [hst_get] at hx
  rw [hst_look] at hf ⊢
  rw [hitmOf_fs] at hf
  subst har
  have hj := fset_one (text := (hitmOf fs).text) (hitmOf_kind fs) hs hG hx (hst_tight ev hF) (by omega) hf hF.rise (by omega) name s (by omega) (by omega) (.inr (by omega)) (hitm_right hN fput_pos) kh (by decide) 0 ha 2 2 rfl
  rw [hst_set fs ev hN] at hj
  exact hj.mono fun _ _ h => FEnd.leaf h

theorem fcall_HGET {w0 w : World} {l r : Hp} {sb : Nat} {fs : Fs} {ev : List (Int × ByteArray)} {name s : ByteArray} (hS : Step w0 [] w (l ++ r)) (hG : Glob w0) (hX : IsStore l sb (hst fs ev)) (hF : HFit 20 fs) (he : ev.length ≤ 1000) (h1 : name.size ≤ 500) (hh : has fs name = true) (hg : fget fs name = s) :
    Calls Tryz.prog 13 #[ptr sb, .int .i64 0, .slice (some ⟨w.heap.size, 0, none⟩) 3 3] (w.alloc (WsObj [wHGET, kh, name])) (FCall w0 r sb (hst fs ev) 4 s 0) := by
  have hl := hst_load fs ev
  have hlen := hF.len
  have C := Ctx.call hS hG hX (hst_tight ev hF) (by omega) [wHGET, kh, name] (by simp only [List.forall_mem_cons, List.not_mem_nil, false_implies, implies_true, and_true]; exact ⟨by decide, by decide, by omega⟩) (by simp)
  refine (fdo_HGET C spHGET fc_HGET does_HGET 0 (by rw [hst_look]; exact hitmOf_kind fs) 3 (.inr ⟨rfl, by simp⟩) (by decide) (hst fs ev) 4 s 0 [] (fun w' l2 vl R v ar hs hx hf ha har => ?_)).mono fun _ _ h => h.call
  rw [hst_get] at hx
  rw [hst_look] at hf ⊢
  rw [hitmOf_fs] at hf
  subst har
  have ho : oneOf fs name = lfText s := by rw [oneOf, if_pos hh, hg]
  have hj := (hget_any (text := (hitmOf fs).text) (hitmOf_kind fs) hs.front hf hF.rise (by omega) sb 0 kh (ha.more (x := l2)) 1)
  rw [ho] at hj
  exact hj.mono fun _ _ h => h.fend hx

theorem fcall_HEXISTS {w0 w : World} {l r : Hp} {sb : Nat} {fs : Fs} {ev : List (Int × ByteArray)} {name : ByteArray} (hS : Step w0 [] w (l ++ r)) (hG : Glob w0) (hX : IsStore l sb (hst fs ev)) (hF : HFit 20 fs) (he : ev.length ≤ 1000) (h1 : name.size ≤ 500) :
    Calls Tryz.prog 13 #[ptr sb, .int .i64 0, .slice (some ⟨w.heap.size, 0, none⟩) 3 3] (w.alloc (WsObj [wHEXISTS, kh, name])) (FCall w0 r sb (hst fs ev) 3 ByteArray.empty (if has fs name then 1 else 0)) := by
  have hl := hst_load fs ev
  have hlen := hF.len
  have C := Ctx.call hS hG hX (hst_tight ev hF) (by omega) [wHEXISTS, kh, name] (by simp only [List.forall_mem_cons, List.not_mem_nil, false_implies, implies_true, and_true]; exact ⟨by decide, by decide, by omega⟩) (by simp)
  refine (fdo_HEXISTS C spHEXISTS fc_HEXISTS does_HEXISTS 0 (by rw [hst_look]; exact hitmOf_kind fs) 3 (.inr ⟨rfl, by simp⟩) (by decide) (hst fs ev) 3 ByteArray.empty (if has fs name then 1 else 0) [] (fun w' l2 vl R v ar hs hx hf ha har => ?_)).mono fun _ _ h => h.call
  rw [hst_get] at hx
  rw [hst_look] at hf ⊢
  rw [hitmOf_fs] at hf
  subst har
  exact (hexists_any (text := (hitmOf fs).text) (hitmOf_kind fs) hs.front hf hF.rise (by omega) sb 0 kh (ha.more (x := l2)) 1).mono fun _ _ h => h.fend hx

theorem fcall_HDEL {w0 w : World} {l r : Hp} {sb : Nat} {fs : Fs} {ev ev' : List (Int × ByteArray)} {name : ByteArray} {n : Int} (hS : Step w0 [] w (l ++ r)) (hG : Glob w0) (hX : IsStore l sb (hst fs ev)) (hF : HFit 20 fs) (he : ev.length ≤ 1000) (h1 : name.size ≤ 500) (hd : fDrop (hst fs ev) 0 kh fs name = (hst (fdel fs name) ev', lfInt n)) :
    Calls Tryz.prog 13 #[ptr sb, .int .i64 0, .slice (some ⟨w.heap.size, 0, none⟩) 3 3] (w.alloc (WsObj [wHDEL, kh, name])) (FCall w0 r sb (hst (fdel fs name) ev') 3 ByteArray.empty n) := by
  have hl := hst_load fs ev
  have hlen := hF.len
  have C := Ctx.call hS hG hX (hst_tight ev hF) (by omega) [wHDEL, kh, name] (by simp only [List.forall_mem_cons, List.not_mem_nil, false_implies, implies_true, and_true]; exact ⟨by decide, by decide, by omega⟩) (by simp)
  refine (fdo_HDEL C spHDEL fc_HDEL does_HDEL 0 (by rw [hst_look]; exact hitmOf_kind fs) 3 (.inr ⟨rfl, by simp⟩) (by decide) (hst (fdel fs name) ev') 3 ByteArray.empty n [] (fun w' l2 vl R v ar hs hx hf ha har => ?_)).mono fun _ _ h => h.call
  rw [hst_get] at hx
  rw [hst_look] at hf ⊢
  rw [hitmOf_fs] at hf
  subst har
  have hj := fdrop_one (text := (hitmOf fs).text) (hitmOf_kind fs) hs hG hx (hst_tight ev hF) (by omega) hf hF.rise (by omega) name (fun h => ⟨(hitmOf_has h).1, (hitmOf_has h).2, fun f hf => by have := hF.small f hf; omega⟩) kh (by decide) 0 ha 1 1 rfl
  rw [hd] at hj
  exact hj.mono fun _ _ h => FEnd.leaf h

theorem fcall_HLEN {w0 w : World} {l r : Hp} {sb : Nat} {fs : Fs} {ev : List (Int × ByteArray)} (hS : Step w0 [] w (l ++ r)) (hG : Glob w0) (hX : IsStore l sb (hst fs ev)) (hF : HFit 20 fs) (he : ev.length ≤ 1000) :
    Calls Tryz.prog 13 #[ptr sb, .int .i64 0, .slice (some ⟨w.heap.size, 0, none⟩) 2 2] (w.alloc (WsObj [wHLEN, kh])) (FCall w0 r sb (hst fs ev) 3 ByteArray.empty fs.length) := by
  have hl := hst_load fs ev
  have C := Ctx.call hS hG hX (hst_tight ev hF) (by omega) [wHLEN, kh] (by decide) (by decide)
  refine (fdo_HLEN C spHLEN fc_HLEN does_HLEN 0 (by rw [hst_look]; exact hitmOf_kind fs) (hst fs ev) 3 ByteArray.empty fs.length [] (fun w' l2 vl R v ar hs hx hf har => ?_)).mono fun _ _ h => h.call
  rw [hst_get] at hx
  rw [hst_look] at hf ⊢
  rw [hitmOf_fs] at hf
  subst har
  obtain ⟨va, vc, rfl⟩ := hf.shape
  exact (hlen_any hs.front (hitmOf fs).kind (hitmOf fs).text va fs.length vc sb 0 kh (some ⟨w.heap.size, 0, none⟩) 0 0).mono fun _ _ h => h.fend hx

/-- HGETALL answers with a list. -/
def FAllCall (w0 : World) (r : Hp) (sb : Nat) (T : St) (xs : List Lf) (e : Ending) (w' : World) : Prop :=
  ∃ sa sc vl l', e = .returned (.tuple #[.agg #[.int .i64 12, .string ByteArray.empty, .int .i64 0, .float .f64 0, .bool false, .slice sa xs.length sc], .bool true]) ∧ IsLfs (.slice sa xs.length sc) xs vl ∧ IsStore l' sb T ∧ Step w0 [] w' (l' ++ (vl ++ r))
theorem fcall_HGETALL {w0 w : World} {l r : Hp} {sb : Nat} {fs : Fs} {ev : List (Int × ByteArray)} (hS : Step w0 [] w (l ++ r)) (hG : Glob w0) (hX : IsStore l sb (hst fs ev)) (hF : HFit 20 fs) (he : ev.length ≤ 1000) :
    Calls Tryz.prog 13 #[ptr sb, .int .i64 0, .slice (some ⟨w.heap.size, 0, none⟩) 2 2] (w.alloc (WsObj [wHGETALL, kh])) (FAllCall w0 r sb (hst fs ev) (allOf fs)) := by
  have hl := hst_load fs ev
  have hlen := hF.len
  have C := Ctx.call hS hG hX (hst_tight ev hF) (by omega) [wHGETALL, kh] (by decide) (by decide)
  refine (fdo_HGETALL C spHGETALL fc_HGETALL does_HGETALL 0 (by rw [hst_look]; exact hitmOf_kind fs) (hst fs ev) 12 ByteArray.empty 0 (allOf fs) (fun w' l2 vl R v ar hs hx hf har => ?_)).mono fun _ _ h => ?_
  · rw [hst_get] at hx
    rw [hst_look] at hf ⊢
    rw [hitmOf_fs] at hf
    subst har
    refine (fall_any (hitmOf fs).kind (hitmOf fs).text hs.front hf (by omega) sb 0 kh (some ⟨w.heap.size, 0, none⟩) 0 0).mono fun e w2 h => ?_
    obtain ⟨v2, xl, rfl, hxl, h2⟩ := h
    obtain ⟨xa, xc, rfl, _, _⟩ := SliceHp.form hxl
    exact ⟨xa, xc, xl, l2, rfl, hxl, hx, h2.pick (l2 := l2 ++ (xl ++ R)) (m := vl) (perm_by fun f => by simp only [List.map_append, List.sum_append]; omega)⟩
  · obtain ⟨sa, sc, vl, l', rfl, h0, h1, h2⟩ := h
    exact ⟨sa, sc, vl, l', rfl, h0, h1, h2.pick (l2 := l' ++ (vl ++ r)) (m := [(w.heap.size, WsObj [wHGETALL, kh])]) (perm_by fun f => by simp only [List.map_append, List.sum_append, List.map_cons, List.sum_cons, List.map_nil, List.sum_nil]; omega)⟩

end Go.Proofs.YtkmjlpmepggciaaGreatDoor

namespace Go.Proofs.YtkmjlpmepggciaaGreatDoor
open Go Go.RowKit

abbrev VObj (kind : Int) (text : ByteArray) (n : Int) (sa : Option Addr) (k sc : Nat) : Obj := .cells #[.int .i64 kind, .string text, .int .i64 n, .float .f64 0, .bool false, .slice sa k sc] 29 (0, 0)
abbrev kf : ByteArray := ⟨#[102]⟩
abbrev k1 : ByteArray := ⟨#[49]⟩
abbrev k2 : ByteArray := ⟨#[50]⟩
def A1 : St := (fSet ((newSt 10000).get kh 0) 0 kh [] kf k1).1
theorem a1_eq : fSet ((newSt 10000).get kh 0) 0 kh [] kf k1 = (A1, lfInt 1) := by kernel_rfl
theorem a1_look : (A1.look kh 0).getD zeroItm = hitm [(kf, k1)] := by kernel_rfl
def A2 : St := (fKeep (A1.get kh 0) 0 kh (hitm (fput [(kf, k1)] kf (wtext 3))) 3).1
theorem a2_eq : fKeep (A1.get kh 0) 0 kh (hitm (fput [(kf, k1)] kf (wtext 3))) 3 = (A2, lfInt 3) := by kernel_rfl
theorem a1_fit : HFit 1 [(kf, k1)] := (HFit.nil 0).fput (name := kf) (text := k1) (by decide) (by decide)
theorem wtext3 : (wtext 3).size ≤ 500 := by decide +kernel

theorem fal_call1 {w0 w : World} {l r : Hp} {sb : Nat} (hS : Step w0 [] w (l ++ r)) (hG : Glob w0) (hX : IsStore l sb (newSt 10000)) :
    Calls Tryz.prog 13 #[ptr sb, .int .i64 0, .slice (some ⟨w.heap.size, 0, none⟩) 4 4] (w.alloc (WsObj [wHSET, kh, kf, k1])) (FCall w0 r sb A1 3 ByteArray.empty 1) := by
  have C := Ctx.call hS hG hX (newSt_tight _) (by decide) [wHSET, kh, kf, k1] (by decide) (by decide)
  refine (fdo_HSET C spHSET fc_HSET does_HSET 0 rfl 4 (.inr ⟨rfl, by simp⟩) (by decide) A1 3 ByteArray.empty 1 [] (fun w' l2 vl R v ar hs hx hf ha har => ?_)).mono fun _ _ h => h.call
  subst har
  have hj := fset_one (kind := 0) (text := ByteArray.empty) (fs := []) rfl hs hG hx (Nat.le_of_ble_eq_true (by kernel_rfl)) (Nat.le_of_ble_eq_true (by kernel_rfl)) hf List.Pairwise.nil (by decide) kf k1 (by decide) (by decide) (.inr (by decide)) (hitm_right (a1_fit.mono (by decide)) (by decide)) kh (by decide) 0 ha 2 2 rfl
  rw [a1_eq] at hj
  exact hj.mono fun _ _ h => FEnd.leaf h

theorem fal_call2 {w0 w : World} {l r : Hp} {sb : Nat} (hS : Step w0 [] w (l ++ r)) (hG : Glob w0) (hX : IsStore l sb A1) :
    Calls Tryz.prog 13 #[ptr sb, .int .i64 0, .slice (some ⟨w.heap.size, 0, none⟩) 4 4] (w.alloc (WsObj [wHINCRBY, kh, kf, k2])) (FCall w0 r sb A2 3 ByteArray.empty 3) := by
  have C := Ctx.call hS hG hX (Nat.le_of_ble_eq_true (by kernel_rfl)) (Nat.le_of_ble_eq_true (by kernel_rfl)) [wHINCRBY, kh, kf, k2] (by decide) (by decide)
  refine (fdo_HINCRBY C spHINCRBY fc_HINCRBY does_HINCRBY 0 (by rw [a1_look]; rfl) 4 (.inr ⟨rfl, by simp⟩) (by decide) A2 3 ByteArray.empty 3 [] (fun w' l2 vl R v ar hs hx hf ha har => ?_)).mono fun _ _ h => h.call
  rw [a1_look] at hf ⊢
  subst har
  have hj := fadd_ok (kind := 2) (text := ByteArray.empty) (fs := [(kf, k1)]) rfl hs hG hx (Nat.le_of_ble_eq_true (by kernel_rfl)) (Nat.le_of_ble_eq_true (by kernel_rfl)) hf a1_fit.rise (by decide) kf k2 (by decide) (by decide) (by kernel_rfl) 1 2 3 (by kernel_rfl) (by decide +kernel) (by kernel_rfl) (by kernel_rfl) (Nat.le_trans wtext3 (by decide)) (hitm_right ((a1_fit.fput (by decide) wtext3).mono (by decide)) fput_pos) kh (by decide) 0 ha 2 2 rfl
  rw [a2_eq] at hj
  exact hj.mono fun _ _ h => FEnd.leaf h

set_option maxRecDepth 100000 in
set_option maxHeartbeats 1500000 in
theorem falive_any {w0 w : World} {r : Hp} (hS : Step w0 [] w r) (hG : Glob w0) :
    Calls Tryz.prog 11 #[] w (fun e w' => e = .returned (.bool true) ∧ Step w0 [] w' r) := by
  have hnew := hid (snew_any hS 10000)
  replace hG := hid hG
  go_enter Tryz.func11, Tryz.ntmps11
  clear hS
  go_wp2_with fail
  refine hnew.out.mono ?_
  rintro e w1 ⟨sb, l1, rfl, hX, S1⟩
  have hdo := hid (fal_call1 S1 hG.out hX)
  clear hnew S1 hX
  go_wp2_with fail
  refine hdo.out.mono ?_
  rintro e w2 ⟨sa, sc, l2, rfl, hX2, S2⟩
  clear hdo
  go_upto_region 5 with fail
  have S3 := S2.keepLf (VObj 3 ByteArray.empty 1 sa 0 sc)
  generalize hw3 : w2.alloc _ = w3 at S3 ⊢
  clear hw3 S2
  have hdo := hid (fal_call2 S3 hG.out hX2)
  generalize w2.heap.size = ab at S3 hdo ⊢
  clear S3 hX2
  go_wp2_with fail
  refine hdo.out.mono ?_
  rintro e w4 ⟨sa2, sc2, l4, rfl, hX4, S4⟩
  have S5 := S4.alloc (VObj 3 ByteArray.empty 3 sa2 0 sc2)
  clear hdo hX4
  go_upto_region 6 with fail
  generalize hw5 : w4.alloc _ = w5 at S5 ⊢
  clear hw5 S4
  generalize w4.heap.size = bb at S5 ⊢
  have hA := S5.own.at_ (ab, VObj 3 ByteArray.empty 1 sa 0 sc) (by simp)
  have hB := S5.own.at_ (bb, VObj 3 ByteArray.empty 3 sa2 0 sc2) (by simp)
  have a0 : w5.cell? ⟨ab, 0, none⟩ = some (.int .i64 3) := cells_get hA 0
  have a2 : w5.cell? ⟨ab, 2, none⟩ = some (.int .i64 1) := cells_get hA 2
  have b0 : w5.cell? ⟨bb, 0, none⟩ = some (.int .i64 3) := cells_get hB 0
  have b2 : w5.cell? ⟨bb, 2, none⟩ = some (.int .i64 3) := cells_get hB 2
  clear hA hB
  have S6 : Hid (Step w0 [] w5 r) := hid (S5.pick (l2 := r) (m := (bb, VObj 3 ByteArray.empty 3 sa2 0 sc2) :: (l4 ++ [(ab, VObj 3 ByteArray.empty 1 sa 0 sc)])) (perm_by fun f => by
    simp only [List.map_append, List.sum_append, List.map_cons, List.sum_cons, List.map_nil, List.sum_nil]; omega))
  clear S5
  go_wp2_with fail
  go_ret
  exact ⟨rfl, S6.out⟩

end Go.Proofs.YtkmjlpmepggciaaGreatDoor
