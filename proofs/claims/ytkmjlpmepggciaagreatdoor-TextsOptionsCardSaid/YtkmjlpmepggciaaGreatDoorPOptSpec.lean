/-
  TextsOptions, the plain law: what SET with NX, XX or KEEPTTL answers and leaves. No program in sight.
  nearhandlaw18: TextsOptions, the walk (printed by gen_law.py).
-/
import Derived.Test.YtkmjlpmepggciaaGreatDoorPOne
set_option linter.unusedVariables false
set_option linter.unusedSimpArgs false
namespace Go.Proofs.YtkmjlpmepggciaaGreatDoor
open Go Go.RowKit

inductive W3 where
  | nx
  | xx
  | kp
def W3.word : W3 → ByteArray
  | .nx => ⟨#[78, 88]⟩
  | .xx => ⟨#[88, 88]⟩
  | .kp => ⟨#[75, 69, 69, 80, 84, 84, 76]⟩
abbrev wGET : ByteArray := ⟨#[71, 69, 84]⟩
abbrev wPX : ByteArray := ⟨#[80, 88]⟩
abbrev w50 : ByteArray := ⟨#[53, 48]⟩

theorem opts_px : tOpts 0 [wPX, w50] = (⟨false, false, false, false, true, 50⟩, 0) := by kernel_rfl
theorem opts_nx : tOpts 5 [W3.nx.word, wGET] = (⟨true, false, true, false, false, 0⟩, 0) := by kernel_rfl
theorem opts_xx : tOpts 5 [W3.xx.word, wGET] = (⟨false, true, true, false, false, 0⟩, 0) := by kernel_rfl
theorem opts_kp : tOpts 5 [W3.kp.word, wGET] = (⟨false, false, true, true, false, 0⟩, 0) := by kernel_rfl

def E0 : St := ⟨[], [], [], 100000⟩
theorem new_e0 : newSt 100000 = E0 := by
  have : (max 0 (min (100000 : Int) 1000000000000)).toNat = 100000 := by decide
  rw [newSt, this]; rfl
def Eold (old : ByteArray) : St := one kk (textItm old) [(kk, 50)] [(1, kk), (1, kk)] 100000

theorem cost_opt {s : ByteArray} (h : s.size ≤ 1000) : cost kk (textItm s) ≤ 100000 := Nat.le_trans (cost_kk (by omega)) (by decide)
theorem e0_due (now : Int) : E0.due kk now = E0 := rfl
theorem e0_putE {s : ByteArray} (h : s.size ≤ 1000) : E0.putE kk (textItm s) = 0 := putE_text (by rw [kk_size]; omega) (by omega) (cost_opt h)
theorem e0_putG {s : ByteArray} (h : s.size ≤ 1000) (keep : Bool) (now : Int) : E0.putG kk (textItm s) keep now = one kk (textItm s) [] [(1, kk)] 100000 := by
  rw [St.putG, if_pos (e0_putE h)]
  exact no_put (cost_opt h) keep
theorem eold_due (old : ByteArray) : (Eold old).due kk 5 = Eold old := one_due_end (by decide)
theorem eold_look (old : ByteArray) : (Eold old).look kk 5 = some (textItm old) := one_look (eold_due old)
theorem eold_putE {old s : ByteArray} (h : s.size ≤ 1000) : (Eold old).putE kk (textItm s) = 0 := putE_text (by rw [kk_size]; omega) (by omega) (cost_opt h)
theorem eold_putG {old s : ByteArray} (h : s.size ≤ 1000) (keep : Bool) : (Eold old).putG kk (textItm s) keep 5 = one kk (textItm s) (if keep then [(kk, 50)] else []) [(1, kk), (1, kk), (1, kk)] 100000 := by
  rw [St.putG, if_pos (eold_putE h)]
  have e : mdel [(kk, (50 : Int))] kk = [] := by simp [mdel]
  have := one_put (k := kk) (it := textItm old) (it' := textItm s) (D := [(kk, 50)]) (ev := [(1, kk), (1, kk)]) (bud := 100000) (now := 5) (eold_due old) (cost_opt h) keep
  rw [e] at this
  exact this

theorem set_px {old : ByteArray} (h : old.size ≤ 1000) : tSet E0 0 kk old [wPX, w50] = (Eold old, lfOk) := by
  rw [tSet, opts_px, if_pos rfl]
  have h1 : ((one kk (textItm old) [] [(1, kk)] 100000).due kk 0).expire kk 50 0 = Eold old := by
    rw [one_due_nil]
    have h2 : (mlook (one kk (textItm old) [] [(1, kk)] 100000).L kk).isSome = true := by
      have : mlook (one kk (textItm old) [] [(1, kk)] 100000).L kk = some (textItm old) := one_mlook
      rw [this]; rfl
    rw [St.expire, if_pos h2, if_neg (by decide)]
    rfl
  have h3 : ¬ ((false : Bool) = true ∧ (toldOf (E0.look kk 0)).kind = 2) := fun h => by cases h.1
  simp only [tSetO]
  rw [if_neg h3, if_neg (by simp), e0_due, if_pos (e0_putE h), if_pos trivial, e0_putG h, h1]
  rfl

/-- What is there behind the SET, and what it and a GET tell. -/
def optSt (old fresh : ByteArray) : Bool → W3 → St
  | true, .nx => Eold old
  | true, .xx => one kk (textItm fresh) [] [(1, kk), (1, kk), (1, kk)] 100000
  | true, .kp => one kk (textItm fresh) [(kk, 50)] [(1, kk), (1, kk), (1, kk)] 100000
  | false, .nx => one kk (textItm fresh) [] [(1, kk)] 100000
  | false, .xx => E0
  | false, .kp => one kk (textItm fresh) [] [(1, kk)] 100000
def optX (old : ByteArray) (there : Bool) : Lf := if there then lfText old else lfNil
def optY (old fresh : ByteArray) : Bool → W3 → Lf
  | true, .nx => lfText old
  | true, .xx => lfText fresh
  | true, .kp => lfText fresh
  | false, .nx => lfText fresh
  | false, .xx => lfNil
  | false, .kp => lfText fresh
def optT : Bool → W3 → Int
  | true, .nx => 45
  | true, .xx => -1
  | true, .kp => 45
  | false, .nx => -1
  | false, .xx => -2
  | false, .kp => -1
def optS0 (old : ByteArray) (there : Bool) : St := if there then Eold old else E0

theorem opt_set {old fresh : ByteArray} (h1 : fresh.size ≤ 1000) (there : Bool) (w : W3) : tSet (optS0 old there) 5 kk fresh [w.word, wGET] = (optSt old fresh there w, optX old there) := by
  have hk : ¬ (textItm old).kind = 2 := by show ¬ (1 : Int) = 2; decide
  have ht : toldOf (some (textItm old)) = lfText old := by rw [toldOf, if_neg hk]; rfl
  have hn : (E0.look kk 5) = none := rfl
  cases w with
  | nx =>
    rw [tSet, opts_nx, if_pos rfl]
    cases there with
    | true => simp [tSetO, optS0, eold_look, eold_due, ht, optSt, optX, lfText]
    | false => simp [tSetO, optS0, hn, e0_due, toldOf, optSt, optX, lfNil, e0_putE h1, e0_putG h1]
  | xx =>
    rw [tSet, opts_xx, if_pos rfl]
    cases there with
    | true => simp [tSetO, optS0, eold_look, eold_due, ht, optSt, optX, lfText, eold_putE h1, eold_putG h1]
    | false => simp [tSetO, optS0, hn, e0_due, toldOf, optSt, optX, lfNil]
  | kp =>
    rw [tSet, opts_kp, if_pos rfl]
    cases there with
    | true => simp [tSetO, optS0, eold_look, eold_due, ht, optSt, optX, lfText, eold_putE h1, eold_putG h1]
    | false => simp [tSetO, optS0, hn, e0_due, toldOf, optSt, optX, lfNil, e0_putE h1, e0_putG h1]

theorem optSt_form (old fresh : ByteArray) (there : Bool) (w : W3) : optSt old fresh there w = E0 ∨ ∃ s D ev, optSt old fresh there w = one kk (textItm s) D ev 100000 ∧ (D = [] ∨ D = [(kk, 50)]) ∧ ev.length ≤ 3 ∧ (s = old ∨ s = fresh) := by
  cases there <;> cases w
  · exact .inr ⟨_, _, _, rfl, .inl rfl, by simp, .inr rfl⟩
  · exact .inl rfl
  · exact .inr ⟨_, _, _, rfl, .inl rfl, by simp, .inr rfl⟩
  · exact .inr ⟨_, _, _, rfl, .inr rfl, by simp, .inl rfl⟩
  · exact .inr ⟨_, _, _, rfl, .inl rfl, by simp, .inr rfl⟩
  · exact .inr ⟨_, _, _, rfl, .inr rfl, by simp, .inr rfl⟩
theorem one_due5 {it : Itm} {D : AL Int} {ev : List (Int × ByteArray)} {bud : Nat} (h : D = [] ∨ D = [(kk, 50)]) : (one kk it D ev bud).due kk 5 = one kk it D ev bud := by
  rcases h with rfl | rfl
  · exact one_due_nil _
  · exact one_due_end (by decide)
theorem opt_due (old fresh : ByteArray) (there : Bool) (w : W3) : (optSt old fresh there w).due kk 5 = optSt old fresh there w := by
  rcases optSt_form old fresh there w with h | ⟨s, D, ev, h, hD, _, _⟩
  · rw [h]; rfl
  · rw [h]; exact one_due5 hD
theorem opt_tight {old fresh : ByteArray} (h1 : old.size ≤ 1000) (h2 : fresh.size ≤ 1000) (there : Bool) (w : W3) : Tight (optSt old fresh there w) ∧ (optSt old fresh there w).load ≤ 1000000000000 := by
  rcases optSt_form old fresh there w with h | ⟨s, D, ev, h, hD, he, hs⟩
  · rw [h]; exact ⟨Nat.zero_le _, Nat.zero_le _⟩
  · rw [h]
    refine ⟨one_tight (cost_opt (by rcases hs with rfl | rfl <;> assumption)), ?_⟩
    rw [one_load]; omega
theorem s0_tight {old : ByteArray} (h1 : old.size ≤ 1000) (there : Bool) : Tight (optS0 old there) ∧ (optS0 old there).load ≤ 1000000000000 := by
  cases there
  · exact ⟨Nat.zero_le _, Nat.zero_le _⟩
  · exact ⟨one_tight (cost_opt h1), by show 2 + 1 ≤ _; omega⟩
theorem opt_get (old fresh : ByteArray) (there : Bool) (w : W3) : tGet (optSt old fresh there w) 5 kk = (optSt old fresh there w, optY old fresh there w) := by
  have key : ∀ (s : ByteArray) (D : AL Int) (ev : List (Int × ByteArray)), (D = [] ∨ D = [(kk, 50)]) → tGet (one kk (textItm s) D ev 100000) 5 kk = (one kk (textItm s) D ev 100000, lfText s) := by
    intro s D ev hD
    rw [tGet, one_get (one_due5 hD), one_look (one_due5 hD)]
    rfl
  cases there <;> cases w
  · exact key _ _ _ (.inl rfl)
  · rfl
  · exact key _ _ _ (.inl rfl)
  · exact key _ _ _ (.inr rfl)
  · exact key _ _ _ (.inl rfl)
  · exact key _ _ _ (.inr rfl)
theorem opt_ttl (old fresh : ByteArray) (there : Bool) (w : W3) : (optSt old fresh there w).ttl kk 5 = optT there w := by
  have k0 : ∀ (s : ByteArray) (ev : List (Int × ByteArray)), (one kk (textItm s) [] ev 100000).ttl kk 5 = -1 := by
    intro s ev
    have : mlook (one kk (textItm s) [] ev 100000).L kk = some (textItm s) := one_mlook
    rw [St.ttl, this]
    rfl
  have k1 : ∀ (s : ByteArray) (ev : List (Int × ByteArray)), (one kk (textItm s) [(kk, 50)] ev 100000).ttl kk 5 = 45 := by
    intro s ev
    have : mlook (one kk (textItm s) [(kk, 50)] ev 100000).L kk = some (textItm s) := one_mlook
    have h2 : mlook (one kk (textItm s) [(kk, 50)] ev 100000).D kk = some 50 := by simp [one, mlook]
    rw [St.ttl, this]
    simp only [h2]
    decide
  cases there <;> cases w
  · exact k0 _ _
  · rfl
  · exact k0 _ _
  · exact k1 _ _
  · exact k0 _ _
  · exact k1 _ _

theorem opt_r (old fresh : ByteArray) (there : Bool) (w : W3) (t : Int) (h : mlook ((optSt old fresh there w).due kk 5).D kk = some t) : -9223372036854775808 ≤ t - 5 ∧ t - 5 ≤ 9223372036854775807 := by
  rw [opt_due] at h
  rcases optSt_form old fresh there w with e | ⟨s, D, ev, e, hD, _, _⟩
  · rw [e] at h; cases h
  · rw [e] at h
    have h2 : mlook D kk = some t := h
    rcases hD with rfl | rfl
    · cases h2
    · have h3 : mlook [(kk, (50 : Int))] kk = some 50 := by simp [mlook]
      rw [h3] at h2
      cases h2
      omega

end Go.Proofs.YtkmjlpmepggciaaGreatDoor

namespace Go.Proofs.YtkmjlpmepggciaaGreatDoor
open Go Go.RowKit

theorem W3.small (w : W3) : w.word.size ≤ 1099511627776 := by cases w <;> decide
theorem opt_c1 {old : ByteArray} : wcheck [⟨#[83, 69, 84]⟩, ⟨#[107]⟩, old, wPX, w50] = (spSET, ByteArray.empty) := by kernel_rfl
theorem opt_c2 {fresh : ByteArray} (w : W3) : wcheck [⟨#[83, 69, 84]⟩, ⟨#[107]⟩, fresh, w.word, wGET] = (spSET, ByteArray.empty) := by kernel_rfl
theorem opt_c3 : wcheck [⟨#[71, 69, 84]⟩, ⟨#[107]⟩] = (spGET, ByteArray.empty) := by kernel_rfl
theorem w3_at (k : Nat) (h : k < 3) : ∃ w : W3, [⟨#[78, 88]⟩, ⟨#[88, 88]⟩, ⟨#[75, 69, 69, 80, 84, 84, 76]⟩][k]? = some w.word := by
  match k, h with
  | 0, _ => exact ⟨.nx, rfl⟩
  | 1, _ => exact ⟨.xx, rfl⟩
  | 2, _ => exact ⟨.kp, rfl⟩

set_option maxRecDepth 100000 in
set_option maxHeartbeats 4000000 in
theorem lawOptions_any {w0 w : World} {r : Hp} (hS : Step w0 [] w r) (hG : Glob w0) (old fresh : ByteArray) (there : Bool) :
    Calls Tryz.prog 8 #[.string old, .string fresh, .bool there] w (fun e w' => e = .returned (.bool true) ∧ Step w0 [] w' r) := by
  have halive := hid (alive_any hS hG)
  replace hG := hid hG
  clear hS
  go_enter Tryz.func8, Tryz.ntmps8
  go_wp2_with fail
  refine halive.out.mono ?_
  rintro e w0' ⟨rfl, S0⟩
  clear halive
  by_cases ga : 1000 < old.size
  · have ga2 : (1000 : Int) < (old.size : Int) := by omega
    replace S0 := hid S0
    go_wp2_with fail
    go_ret
    exact ⟨rfl, S0.out⟩
  by_cases gb : 1000 < fresh.size
  · have ga2 : ¬ (1000 : Int) < (old.size : Int) := by omega
    have gb2 : (1000 : Int) < (fresh.size : Int) := by omega
    replace S0 := hid S0
    go_wp2_with fail
    go_ret
    exact ⟨rfl, S0.out⟩
  have ga2 : ¬ (1000 : Int) < (old.size : Int) := by omega
  have gb2 : ¬ (1000 : Int) < (fresh.size : Int) := by omega
  have ho : old.size ≤ 1000 := by omega
  have hf : fresh.size ≤ 1000 := by omega
  have S1 : Step w0 [] _ ((w0'.heap.size, WsObj [⟨#[78, 88]⟩, ⟨#[88, 88]⟩, ⟨#[75, 69, 69, 80, 84, 84, 76]⟩]) :: r) := S0.alloc (.cells #[.string ⟨#[78, 88]⟩, .string ⟨#[88, 88]⟩, .string ⟨#[75, 69, 69, 80, 84, 84, 76]⟩] 9)
  clear S0 ga gb
  go_wp2_with fail
  generalize hw : w0'.alloc _ = wl at S1 ⊢
  clear hw
  generalize w0'.heap.size = g at S1 ⊢
  replace S1 := hid S1
  go_loopw [8, 9, 10, 11, 12, 13, 14, 15, 16, 17, 30] (fun s8 s9 s10 s11 s12 s13 s14 s15 s16 s17 s30 wr => ∃ k : Nat, s30 = .int .i64 k ∧ k ≤ 3 ∧ Hid (Step w0 [] wr ((g, WsObj [⟨#[78, 88]⟩, ⟨#[88, 88]⟩, ⟨#[75, 69, 69, 80, 84, 84, 76]⟩]) :: r))) (fun s8 s9 s10 s11 s12 s13 s14 s15 s16 s17 s30 wr => (3 - intOf s30).toNat)
  case atStart => exact ⟨0, rfl, by omega, S1⟩
  case round =>
    obtain ⟨k, rfl, hk, S2⟩ := hrel
    clear S1
    by_cases hlt : k < 3
    · obtain ⟨wd, hw3⟩ := w3_at k hlt
      have hcell : wr.cell? ⟨g, k, none⟩ = some (.string wd.word) := by
        rw [cells_get S2.out.own.head k, List.getElem?_toArray, List.getElem?_map, hw3]; rfl
      have hnew := snew_any S2.out 100000
      replace hnew := hid hnew
      clear S2 hw3
      go_wp2_with fail
      refine hnew.out.mono ?_
      rintro e w1 ⟨sb, l1, rfl, hX1, S1⟩
      rw [new_e0] at hX1
      clear hnew
      replace S1 := hid S1
      replace hX1 := hid hX1
      cases there with
      | true =>
        have hdo : Calls Tryz.prog 17 #[ptr sb, .int .i64 0, .slice (some ⟨w1.heap.size, 0, none⟩) 5 5] (w1.alloc (WsObj [⟨#[83, 69, 84]⟩, ⟨#[107]⟩, old, wPX, w50])) (CallPost w0 ((g, WsObj [⟨#[78, 88]⟩, ⟨#[88, 88]⟩, ⟨#[75, 69, 69, 80, 84, 84, 76]⟩]) :: r) sb _) := call_SET S1.out hG.out hX1.out ⟨Nat.zero_le _, Nat.zero_le _⟩ (by simp only [List.forall_mem_cons, List.not_mem_nil, false_implies, implies_true, and_true]; exact ⟨by decide, by decide, by omega, by decide, by decide⟩) opt_c1 0 (by decide) (by simp)
        rw [set_px ho] at hdo
        unfold CallPost at hdo
        simp only [lfOk, lfText, lfInt, lfNil] at hdo
        replace hdo := hid hdo
        clear S1 hX1
        go_wp2_with fail
        refine hdo.out.mono ?_
        rintro e w2 ⟨rfl, l2, hX2, S2⟩
        clear hdo
        replace hX2 := hid hX2
        replace S2 := hid S2
        have hdo : Calls Tryz.prog 17 #[ptr sb, .int .i64 5, .slice (some ⟨w2.heap.size, 0, none⟩) 5 5] (w2.alloc (WsObj [⟨#[83, 69, 84]⟩, ⟨#[107]⟩, fresh, wd.word, wGET])) (CallPost w0 ((g, WsObj [⟨#[78, 88]⟩, ⟨#[88, 88]⟩, ⟨#[75, 69, 69, 80, 84, 84, 76]⟩]) :: r) sb _) := call_SET S2.out hG.out hX2.out (s0_tight (old := old) ho true) (by simp only [List.forall_mem_cons, List.not_mem_nil, false_implies, implies_true, and_true]; exact ⟨by decide, by decide, by omega, W3.small wd, by decide⟩) (opt_c2 wd) 5 (by decide) (by simp)
        rw [show tSet (Eold old) 5 kk fresh [wd.word, wGET] = _ from opt_set (old := old) hf true wd] at hdo
        unfold CallPost at hdo
        simp only [lfOk, lfText, lfInt, lfNil] at hdo
        replace hdo := hid hdo
        clear S2 hX2
        go_wp2_with fail
        refine hdo.out.mono ?_
        rintro e w3 ⟨rfl, l3, hX3, S3⟩
        clear hdo
        replace hX3 := hid hX3
        unfold ansVal
        go_upto_region 12 with fail
        replace S3 := S3.keepLf (LfObj (optX old true))
        try simp only [lfOk, lfText, lfInt, lfNil] at S3
        generalize hw : w3.alloc _ = w3a at S3 ⊢
        clear hw
        generalize w3.heap.size = xb at S3 ⊢
        replace S3 := hid S3
        have hdo : Calls Tryz.prog 17 #[ptr sb, .int .i64 5, .slice (some ⟨w3a.heap.size, 0, none⟩) 2 2] (w3a.alloc (WsObj [⟨#[71, 69, 84]⟩, ⟨#[107]⟩])) (CallPost w0 ((xb, LfObj (optX old true)) :: ((g, WsObj [⟨#[78, 88]⟩, ⟨#[88, 88]⟩, ⟨#[75, 69, 69, 80, 84, 84, 76]⟩]) :: r)) sb _) := call_GET S3.out hG.out hX3.out (opt_tight ho hf true wd) (by decide) opt_c3 5
        rw [opt_get] at hdo
        unfold CallPost at hdo
        simp only [lfOk, lfText, lfInt, lfNil] at hdo
        replace hdo := hid hdo
        clear S3 hX3
        go_wp2_with fail
        refine hdo.out.mono ?_
        rintro e w4 ⟨rfl, l4, hX4, S4⟩
        clear hdo
        replace hX4 := hid hX4
        unfold ansVal
        go_upto_region 13 with fail
        replace S4 := S4.keepLf (LfObj (optY old fresh true wd))
        try simp only [lfOk, lfText, lfInt, lfNil] at S4
        generalize hw : w4.alloc _ = w4a at S4 ⊢
        clear hw
        generalize w4.heap.size = yb at S4 ⊢
        replace S4 := hid S4
        have x_ := S4.out.own.right
        obtain ⟨y0, y1, y2, y3, y4, y5⟩ := lfAt (x_.at_ (yb, LfObj (optY old fresh true wd)) (by simp))
        obtain ⟨x0, x1, x2, x3, x4, x5⟩ := lfAt (x_.at_ (xb, LfObj (optX old true)) (by simp))
        clear x_
        have httl := ttl_any S4.out hG.out hX4.out (by have := (opt_tight ho hf true wd).2; unfold St.load at this; omega) kk (by decide) 5 (opt_r old fresh true wd)
        rw [opt_due, opt_ttl] at httl
        replace httl := hid httl
        have hdrop : Hid (∀ (w' : World) (l9 : Hp), Step w0 [] w' (l9 ++ ((yb, LfObj (optY old fresh true wd)) :: (xb, LfObj (optX old true)) :: ((g, WsObj [⟨#[78, 88]⟩, ⟨#[88, 88]⟩, ⟨#[75, 69, 69, 80, 84, 84, 76]⟩]) :: r))) → Step w0 [] w' ((g, WsObj [⟨#[78, 88]⟩, ⟨#[88, 88]⟩, ⟨#[75, 69, 69, 80, 84, 84, 76]⟩]) :: r)) := hid fun w' l9 h => h.pick (m := l9 ++ [(yb, LfObj (optY old fresh true wd)), (xb, LfObj (optX old true))]) (perm_by fun f => by
          simp only [List.map_append, List.sum_append, List.map_cons, List.sum_cons, List.map_nil, List.sum_nil]; omega)
        clear S4 hX4
        cases wd
        all_goals (
          simp only [optX, optY, optT, lfText, lfNil, if_true, Bool.false_eq_true, if_false] at x0 x1 x2 y0 y1 y2 httl
          simp only [W3.word] at hcell ⊢
          go_wp2_with fail
          refine httl.out.mono ?_
          rintro e w9 ⟨rfl, l9, _, S9⟩
          have S10 := hid (hdrop.out _ _ S9)
          clear httl S9 hdrop
          go_wp2_with fail
          go_roundw
          case rel => exact ⟨k + 1, rfl, hlt, S10⟩
          case measure => simp [intOf]; omega)
      | false =>
        have hdo : Calls Tryz.prog 17 #[ptr sb, .int .i64 5, .slice (some ⟨w1.heap.size, 0, none⟩) 5 5] (w1.alloc (WsObj [⟨#[83, 69, 84]⟩, ⟨#[107]⟩, fresh, wd.word, wGET])) (CallPost w0 ((g, WsObj [⟨#[78, 88]⟩, ⟨#[88, 88]⟩, ⟨#[75, 69, 69, 80, 84, 84, 76]⟩]) :: r) sb _) := call_SET S1.out hG.out hX1.out (s0_tight (old := old) ho false) (by simp only [List.forall_mem_cons, List.not_mem_nil, false_implies, implies_true, and_true]; exact ⟨by decide, by decide, by omega, W3.small wd, by decide⟩) (opt_c2 wd) 5 (by decide) (by simp)
        rw [show tSet E0 5 kk fresh [wd.word, wGET] = _ from opt_set (old := old) hf false wd] at hdo
        unfold CallPost at hdo
        simp only [lfOk, lfText, lfInt, lfNil] at hdo
        replace hdo := hid hdo
        clear S1 hX1
        go_wp2_with fail
        refine hdo.out.mono ?_
        rintro e w2 ⟨rfl, l2, hX2, S2⟩
        clear hdo
        replace hX2 := hid hX2
        unfold ansVal
        go_upto_region 12 with fail
        replace S2 := S2.keepLf (LfObj (optX old false))
        try simp only [lfOk, lfText, lfInt, lfNil] at S2
        generalize hw : w2.alloc _ = w2a at S2 ⊢
        clear hw
        generalize w2.heap.size = xb at S2 ⊢
        replace S2 := hid S2
        have hdo : Calls Tryz.prog 17 #[ptr sb, .int .i64 5, .slice (some ⟨w2a.heap.size, 0, none⟩) 2 2] (w2a.alloc (WsObj [⟨#[71, 69, 84]⟩, ⟨#[107]⟩])) (CallPost w0 ((xb, LfObj (optX old false)) :: ((g, WsObj [⟨#[78, 88]⟩, ⟨#[88, 88]⟩, ⟨#[75, 69, 69, 80, 84, 84, 76]⟩]) :: r)) sb _) := call_GET S2.out hG.out hX2.out (opt_tight ho hf false wd) (by decide) opt_c3 5
        rw [opt_get] at hdo
        unfold CallPost at hdo
        simp only [lfOk, lfText, lfInt, lfNil] at hdo
        replace hdo := hid hdo
        clear S2 hX2
        go_wp2_with fail
        refine hdo.out.mono ?_
        rintro e w3 ⟨rfl, l3, hX3, S3⟩
        clear hdo
        replace hX3 := hid hX3
        unfold ansVal
        go_upto_region 13 with fail
        replace S3 := S3.keepLf (LfObj (optY old fresh false wd))
        try simp only [lfOk, lfText, lfInt, lfNil] at S3
        generalize hw : w3.alloc _ = w3a at S3 ⊢
        clear hw
        generalize w3.heap.size = yb at S3 ⊢
        replace S3 := hid S3
        have x_ := S3.out.own.right
        obtain ⟨y0, y1, y2, y3, y4, y5⟩ := lfAt (x_.at_ (yb, LfObj (optY old fresh false wd)) (by simp))
        obtain ⟨x0, x1, x2, x3, x4, x5⟩ := lfAt (x_.at_ (xb, LfObj (optX old false)) (by simp))
        clear x_
        have httl := ttl_any S3.out hG.out hX3.out (by have := (opt_tight ho hf false wd).2; unfold St.load at this; omega) kk (by decide) 5 (opt_r old fresh false wd)
        rw [opt_due, opt_ttl] at httl
        replace httl := hid httl
        have hdrop : Hid (∀ (w' : World) (l9 : Hp), Step w0 [] w' (l9 ++ ((yb, LfObj (optY old fresh false wd)) :: (xb, LfObj (optX old false)) :: ((g, WsObj [⟨#[78, 88]⟩, ⟨#[88, 88]⟩, ⟨#[75, 69, 69, 80, 84, 84, 76]⟩]) :: r))) → Step w0 [] w' ((g, WsObj [⟨#[78, 88]⟩, ⟨#[88, 88]⟩, ⟨#[75, 69, 69, 80, 84, 84, 76]⟩]) :: r)) := hid fun w' l9 h => h.pick (m := l9 ++ [(yb, LfObj (optY old fresh false wd)), (xb, LfObj (optX old false))]) (perm_by fun f => by
          simp only [List.map_append, List.sum_append, List.map_cons, List.sum_cons, List.map_nil, List.sum_nil]; omega)
        clear S3 hX3
        cases wd
        all_goals (
          simp only [optX, optY, optT, lfText, lfNil, if_true, Bool.false_eq_true, if_false] at x0 x1 x2 y0 y1 y2 httl
          simp only [W3.word] at hcell ⊢
          go_wp2_with fail
          refine httl.out.mono ?_
          rintro e w9 ⟨rfl, l9, _, S9⟩
          have S10 := hid (hdrop.out _ _ S9)
          clear httl S9 hdrop
          go_wp2_with fail
          go_roundw
          case rel => exact ⟨k + 1, rfl, hlt, S10⟩
          case measure => simp [intOf]; omega)
    · obtain rfl : k = 3 := by omega
      have S9 := hid (S2.out.less (List.sublist_cons_self _ _))
      clear S2
      go_wp2_with fail
      go_ret
      exact ⟨rfl, S9.out⟩

end Go.Proofs.YtkmjlpmepggciaaGreatDoor
