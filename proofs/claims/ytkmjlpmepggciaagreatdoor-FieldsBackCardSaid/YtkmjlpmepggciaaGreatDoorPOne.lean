/-
  A store of one key: what the commands of texts do to it. No program in sight.
  The digits of a number, digit by digit: the plain law. No program in sight.
  nearhandref01.Text.
  texts.Do, a command at a time (printed by gen_do.py).
  texts.Do, a command that is none of texts (printed by gen_do.py).
  A call of texts.Do: its words lie in a new block, which is let go (printed by gen_law.py).
-/
import Derived.Test.YtkmjlpmepggciaaGreatDoorP30
import Derived.Test.YtkmjlpmepggciaaGreatDoorP32
import Derived.Deep.RegionHeld3
set_option linter.unusedVariables false
set_option linter.unusedSimpArgs false
namespace Go.Proofs.YtkmjlpmepggciaaGreatDoor
open Go

theorem wtext_small (n : Int) (h0 : -9223372036854775808 ≤ n) (h1 : n ≤ 9223372036854775807) : (wtext n).size ≤ 21 := by
  have := Lib.itoa_length_le n h0 h1
  have e : (wtext n).size = (Lib.itoa n).length := by simp [wtext, ByteArray.size]
  omega
/-- A store of one key. -/
def one (k : ByteArray) (it : Itm) (D : AL Int) (ev : List (Int × ByteArray)) (bud : Nat) : St := ⟨[(k, it)], D, ev, bud⟩
theorem one_mlook {k : ByteArray} {it : Itm} : mlook [(k, it)] k = some it := by simp [mlook]
theorem one_mdel {k : ByteArray} {it : Itm} : mdel [(k, it)] k = [] := by simp [mdel]
theorem one_touch {k : ByteArray} {it : Itm} {D : AL Int} {ev : List (Int × ByteArray)} {bud : Nat} : (one k it D ev bud).touch k = one k it D ev bud := by
  simp only [St.touch, one, one_mlook, one_mdel, List.nil_append]
theorem one_due_nil {k : ByteArray} {it : Itm} {ev : List (Int × ByteArray)} {bud : Nat} (now : Int) : (one k it [] ev bud).due k now = one k it [] ev bud := by
  simp [St.due, one, mlook]
theorem one_due_end {k : ByteArray} {it : Itm} {ev : List (Int × ByteArray)} {bud : Nat} {t now : Int} (h : now < t) : (one k it [(k, t)] ev bud).due k now = one k it [(k, t)] ev bud := by
  have : ¬ t ≤ now := by omega
  simp [St.due, one, mlook, this]
theorem one_look {k : ByteArray} {it : Itm} {D : AL Int} {ev : List (Int × ByteArray)} {bud : Nat} {now : Int} (h : (one k it D ev bud).due k now = one k it D ev bud) : (one k it D ev bud).look k now = some it := by
  rw [St.look, h]; exact one_mlook
theorem one_get {k : ByteArray} {it : Itm} {D : AL Int} {ev : List (Int × ByteArray)} {bud : Nat} {now : Int} (h : (one k it D ev bud).due k now = one k it D ev bud) : (one k it D ev bud).get k now = one k it D ev bud := by
  rw [St.get, h, one_touch]
theorem one_tight {k : ByteArray} {it : Itm} {D : AL Int} {ev : List (Int × ByteArray)} {bud : Nat} (h : cost k it ≤ bud) : Tight (one k it D ev bud) := by
  simp only [Tight, one, bytesOf, List.map_cons, List.map_nil, List.sum_cons, List.sum_nil]; omega
theorem one_load {k : ByteArray} {it : Itm} {D : AL Int} {ev : List (Int × ByteArray)} {bud : Nat} : (one k it D ev bud).load = ev.length + 1 := rfl

theorem evict_not {S : St} {n : Nat} {k : ByteArray} (h : Tight S) : S.evict n k = S := by
  cases n with
  | zero => rfl
  | succ n =>
    unfold Tight at h
    unfold St.evict
    rw [if_neg (by omega)]
theorem one_put {k : ByteArray} {it it' : Itm} {D : AL Int} {ev : List (Int × ByteArray)} {bud : Nat} {now : Int} (h : (one k it D ev bud).due k now = one k it D ev bud) (hc : cost k it' ≤ bud) (keep : Bool) :
    (one k it D ev bud).put k it' keep now = one k it' (if keep then D else mdel D k) (ev ++ [(1, k)]) bud := by
  have e : (one k it D ev bud).lay k it' keep = one k it' (if keep then D else mdel D k) (ev ++ [(1, k)]) bud := by
    simp only [St.lay, one, one_mdel, List.nil_append]
  rw [St.put, h, e, evict_not (one_tight hc)]
theorem no_put {k : ByteArray} {it : Itm} {ev : List (Int × ByteArray)} {bud : Nat} {now : Int} (hc : cost k it ≤ bud) (keep : Bool) :
    (⟨[], [], ev, bud⟩ : St).put k it keep now = one k it [] (ev ++ [(1, k)]) bud := by
  have e0 : (⟨[], [], ev, bud⟩ : St).due k now = ⟨[], [], ev, bud⟩ := rfl
  have e : (⟨[], [], ev, bud⟩ : St).lay k it keep = one k it [] (ev ++ [(1, k)]) bud := by
    cases keep <;> rfl
  rw [St.put, e0, e, evict_not (one_tight hc)]
theorem putE_text {S : St} {k s : ByteArray} (hk : k.size ≤ 512) (hs : s.size ≤ 4096) (hc : cost k (textItm s) ≤ S.bud) : S.putE k (textItm s) = 0 := by
  have h1 : ¬ (512 < k.size ∨ ((textItm s).kind = 1 ∧ 4096 < (textItm s).text.size)) := by
    rintro (h | ⟨_, h⟩)
    · omega
    · have : (textItm s).text = s := rfl
      rw [this] at h; omega
  rw [St.putE, if_neg h1, if_neg (by omega)]
theorem cost_txt {k s : ByteArray} : cost k (textItm s) ≤ 48 + k.size + max 8 s.size := by
  have e : cost k (textItm s) = 48 + k.size + (if (wnum s).isSome then 8 else s.size) := rfl
  rw [e]
  split <;> omega

theorem tSetO_plain {S : St} {now : Int} {k s : ByteArray} : tSet S now k s [] = if (S.due k now).putE k (textItm s) = 0 then ((S.due k now).putG k (textItm s) false now, lfOk) else ((S.due k now).putG k (textItm s) false now, lfErr ((S.due k now).putE k (textItm s))) := rfl

abbrev kk : ByteArray := ⟨#[107]⟩
theorem kk_size : kk.size = 1 := rfl
theorem cost_kk {s : ByteArray} (h : s.size ≤ 4096) : cost kk (textItm s) ≤ 4145 := by
  have := @cost_txt kk s
  rw [kk_size] at this
  omega

/-- A text under k in a store of nothing else, without an end. -/
def txt (s : ByteArray) (ev : List (Int × ByteArray)) (bud : Nat) : St := one kk (textItm s) [] ev bud
theorem txt_due {s : ByteArray} {ev : List (Int × ByteArray)} {bud : Nat} (now : Int) : (txt s ev bud).due kk now = txt s ev bud := one_due_nil now
theorem txt_look {s : ByteArray} {ev : List (Int × ByteArray)} {bud : Nat} (now : Int) : (txt s ev bud).look kk now = some (textItm s) := one_look (txt_due now)
theorem txt_get {s : ByteArray} {ev : List (Int × ByteArray)} {bud : Nat} (now : Int) : (txt s ev bud).get kk now = txt s ev bud := one_get (txt_due now)
theorem txt_tight {s : ByteArray} {ev : List (Int × ByteArray)} {bud : Nat} (h : s.size ≤ 4096) (hb : 4145 ≤ bud) : Tight (txt s ev bud) := one_tight (Nat.le_trans (cost_kk h) hb)
theorem txt_load {s : ByteArray} {ev : List (Int × ByteArray)} {bud : Nat} : (txt s ev bud).load = ev.length + 1 := rfl
theorem txt_bud {s : ByteArray} {ev : List (Int × ByteArray)} {bud : Nat} : (txt s ev bud).bud = bud := rfl
theorem txt_putE {s t : ByteArray} {ev : List (Int × ByteArray)} {bud : Nat} (h : t.size ≤ 4096) (hb : 4145 ≤ bud) : (txt s ev bud).putE kk (textItm t) = 0 :=
  putE_text (by rw [kk_size]; omega) h (by rw [txt_bud]; exact Nat.le_trans (cost_kk h) hb)
theorem txt_putG {s t : ByteArray} {ev : List (Int × ByteArray)} {bud : Nat} (h : t.size ≤ 4096) (hb : 4145 ≤ bud) (keep : Bool) (now : Int) : (txt s ev bud).putG kk (textItm t) keep now = txt t (ev ++ [(1, kk)]) bud := by
  rw [St.putG, if_pos (txt_putE h hb)]
  have := one_put (k := kk) (it := textItm s) (it' := textItm t) (D := []) (ev := ev) (bud := bud) (now := now) (one_due_nil now) (Nat.le_trans (cost_kk h) hb) keep
  rw [txt, this]
  cases keep <;> rfl
theorem tKeep_txt {s t : ByteArray} {ev : List (Int × ByteArray)} {bud : Nat} (h : t.size ≤ 4096) (hb : 4145 ≤ bud) (now : Int) (a : Lf) : tKeep (txt s ev bud) now kk (textItm t) 0 a = (txt t (ev ++ [(1, kk)]) bud, a) := by
  rw [tKeep, if_pos rfl, txt_putG h hb, txt_putE h hb, if_pos rfl]

/-- The document's store of so many bytes. -/
theorem new_set {b : Int} {bud : Nat} (hb : newSt b = ⟨[], [], [], bud⟩) (hb2 : 4145 ≤ bud) {s : ByteArray} (h : s.size ≤ 4096) (now : Int) : tSet (newSt b) now kk s [] = (txt s [(1, kk)] bud, lfOk) := by
  have e0 : (⟨[], [], [], bud⟩ : St).due kk now = ⟨[], [], [], bud⟩ := rfl
  have e1 : (⟨[], [], [], bud⟩ : St).putE kk (textItm s) = 0 := putE_text (by rw [kk_size]; omega) h (Nat.le_trans (cost_kk h) hb2)
  rw [hb, tSetO_plain, e0, if_pos e1, St.putG, if_pos e1, no_put (Nat.le_trans (cost_kk h) hb2)]
  rfl
theorem txt_tGet {s : ByteArray} {ev : List (Int × ByteArray)} {bud : Nat} (now : Int) : tGet (txt s ev bud) now kk = (txt s ev bud, lfText s) := by
  rw [tGet, txt_get, txt_look]; rfl
theorem txt_tSize {s : ByteArray} {ev : List (Int × ByteArray)} {bud : Nat} (now : Int) : tSize (txt s ev bud) now kk = (txt s ev bud, lfInt s.size) := by
  rw [tSize, txt_get, txt_look]; rfl
theorem txt_tJoin {s t : ByteArray} {ev : List (Int × ByteArray)} {bud : Nat} (h : s.size + t.size ≤ 4096) (hb : 4145 ≤ bud) (now : Int) : tJoin (txt s ev bud) now kk t = (txt (s ++ t) (ev ++ [(1, kk)]) bud, lfInt ((s.size : Int) + (t.size : Int))) := by
  have e : joinOf (some (textItm s)) t = (textItm (s ++ t), 0) := by
    have h1 : ¬ (4096 < (textItm s).text.size + t.size) := by
      have : (textItm s).text = s := rfl
      rw [this]; omega
    have h2 : ¬ (textItm s).kind = 2 := by show ¬ (1 : Int) = 2; decide
    rw [joinOf]
    simp only [h1, h2, if_false]
    rfl
  have hs : (s ++ t).size = s.size + t.size := ByteArray.size_append
  rw [tJoin, txt_get, txt_look, e]
  rw [tKeep_txt (by rw [hs]; exact h) hb]
  have : (textItm (s ++ t)).text = s ++ t := rfl
  rw [this, hs, Int.natCast_add]

end Go.Proofs.YtkmjlpmepggciaaGreatDoor

namespace Go.Proofs.YtkmjlpmepggciaaGreatDoor
open Go

def dig (d : Int) : ByteArray := ⟨#[UInt8.ofNat (48 + d.toNat)]⟩

theorem ba_append (a b : List UInt8) : (⟨a.toArray⟩ : ByteArray) ++ ⟨b.toArray⟩ = ⟨(a ++ b).toArray⟩ := by
  apply ByteArray.ext
  simp

theorem wtext_digit {n : Int} (h0 : 0 ≤ n) (h1 : n < 10) : wtext n = dig n := by
  obtain ⟨u, rfl⟩ : ∃ u : Nat, n = u := ⟨n.toNat, by omega⟩
  have hu : u < 10 := by omega
  rw [wtext, Lib.itoa, if_neg (by omega), Int.toNat_natCast, Lib.decDigits, dif_pos hu]
  rfl
theorem wtext_more {n : Int} (h : 10 ≤ n) : wtext n = wtext (n.tdiv 10) ++ wtext (n.tmod 10) := by
  obtain ⟨u, rfl⟩ : ∃ u : Nat, n = u := ⟨n.toNat, by omega⟩
  have e1 : (u : Int).tdiv 10 = ((u / 10 : Nat) : Int) := rfl
  have e2 : (u : Int).tmod 10 = ((u % 10 : Nat) : Int) := rfl
  rw [e1, e2]
  simp only [wtext, Lib.itoa]
  rw [if_neg (by omega), if_neg (by omega), if_neg (by omega), ba_append]
  simp only [Int.toNat_natCast]
  have e3 : Lib.decDigits (u % 10) = [UInt8.ofNat (48 + u % 10)] := by rw [Lib.decDigits, dif_pos (by omega)]
  rw [e3]
  conv => lhs; rw [Lib.decDigits]
  rw [dif_neg (by omega)]
theorem wtext_neg {n : Int} (h0 : n < 0) : wtext n = (⟨#[45]⟩ : ByteArray) ++ wtext (-n) := by
  simp only [wtext, Lib.itoa]
  rw [if_pos h0, if_neg (by omega)]
  have e : n.natAbs = (-n).toNat := by omega
  rw [e, show (⟨#[45]⟩ : ByteArray) = ⟨[45].toArray⟩ from rfl, ba_append]
  rfl
theorem wtext_less {n : Int} (h : n ≤ -10) : wtext n = wtext (n.tdiv 10) ++ wtext (-(n.tmod 10)) := by
  obtain ⟨m, rfl⟩ : ∃ m : Int, n = -m := ⟨-n, by omega⟩
  have hm := wtext_more (n := m) (by omega)
  rw [Int.neg_tdiv, Int.neg_tmod, Int.neg_neg]
  have h2 : 0 < m.tdiv 10 := by
    obtain ⟨u, rfl⟩ : ∃ u : Nat, m = u := ⟨m.toNat, by omega⟩
    have e1 : (u : Int).tdiv 10 = ((u / 10 : Nat) : Int) := rfl
    rw [e1]; omega
  rw [wtext_neg (by omega), wtext_neg (n := -(m.tdiv 10)) (by omega), Int.neg_neg, Int.neg_neg, hm, ByteArray.append_assoc]
theorem dig_lit {d : Int} (h0 : 0 ≤ d) (h1 : d < 10) : (⟨#[48, 49, 50, 51, 52, 53, 54, 55, 56, 57]⟩ : ByteArray).extract d.toNat (d + 1).toNat = dig d := by
  have : d = 0 ∨ d = 1 ∨ d = 2 ∨ d = 3 ∨ d = 4 ∨ d = 5 ∨ d = 6 ∨ d = 7 ∨ d = 8 ∨ d = 9 := by omega
  rcases this with rfl | rfl | rfl | rfl | rfl | rfl | rfl | rfl | rfl | rfl <;> decide +kernel

end Go.Proofs.YtkmjlpmepggciaaGreatDoor

namespace Go.Proofs.YtkmjlpmepggciaaGreatDoor
open Go Go.RowKit

set_option maxRecDepth 100000 in
theorem rtext_digit (n : Int) (w : World) (h0 : 0 ≤ n) (h1 : n < 10) :
    Calls Tryz.prog 20 #[.int .i64 n] w fun e w' => e = .returned (.string (wtext n)) ∧ w' = w := by
  have e := hid (wtext_digit h0 h1)
  have hx := hid (dig_lit h0 h1)
  have h2 : n + 1 ≤ 10 := by omega
  have h3 : n ≤ n + 1 := by omega
  go_enter Tryz.func20, Tryz.ntmps20
  go_wp2_with fail
  go_ret
  rw [e.out, ← hx.out]
  exact ⟨rfl, rfl⟩

/-- n divided by ten, and what is left. -/
theorem ten_of (n : Int) : n = 10 * n.tdiv 10 + n.tmod 10 ∧ (0 ≤ n → 0 ≤ n.tmod 10 ∧ n.tmod 10 < 10 ∧ 0 ≤ n.tdiv 10) ∧ (n ≤ 0 → -10 < n.tmod 10 ∧ n.tmod 10 ≤ 0 ∧ n.tdiv 10 ≤ 0) := by
  have h := Int.mul_tdiv_add_tmod n 10
  refine ⟨h.symm, fun h1 => ?_, fun h1 => ?_⟩
  · have h2 := Int.tmod_nonneg 10 h1
    have h3 := Int.tmod_lt_of_pos n (show (0 : Int) < 10 by decide)
    omega
  · have h2 := Int.tmod_nonneg 10 (show 0 ≤ -n by omega)
    have h3 := Int.tmod_lt_of_pos (-n) (show (0 : Int) < 10 by decide)
    rw [Int.neg_tmod] at h2 h3
    omega

set_option maxRecDepth 100000 in
set_option maxHeartbeats 1000000 in
theorem rtext_step (m : Nat) (IH : ∀ (n : Int) (w : World), n.natAbs < m → -9223372036854775808 ≤ n → n ≤ 9223372036854775807 → Calls Tryz.prog 20 #[.int .i64 n] w fun e w' => e = .returned (.string (wtext n)) ∧ w' = w) (n : Int) (w : World) (hm : n.natAbs ≤ m) (h0 : -9223372036854775808 ≤ n) (h1 : n ≤ 9223372036854775807) :
    Calls Tryz.prog 20 #[.int .i64 n] w fun e w' => e = .returned (.string (wtext n)) ∧ w' = w := by
  by_cases c1 : 0 ≤ n ∧ n < 10
  · exact rtext_digit n w c1.1 c1.2
  obtain ⟨q1, q2, q3⟩ := ten_of n
  by_cases c3 : 0 < n
  · obtain ⟨q2a, q2b, q2c⟩ := q2 (by omega)
    have e7 : n.tmod 10 = n % 10 := Int.tmod_eq_emod_of_nonneg (by omega)
    rw [e7] at q1 q2a q2b
    have e := hid (e7 ▸ wtext_more (n := n) (by omega))
    have hq : (n.tdiv 10).natAbs < m := by omega
    have ih : ∀ w', Hid _ := fun w' => hid (IH (n.tdiv 10) w' (by omega) (by omega) (by omega))
    have hd : ∀ w', Hid _ := fun w' => hid (rtext_digit (n % 10) w' q2a q2b)
    have c4 : 0 ≤ n := by omega
    have c5 : ¬ n < 10 := by omega
    have g1 : -9223372036854775808 ≤ n.tdiv 10 := by omega
    have g2 : n.tdiv 10 ≤ 9223372036854775807 := by omega
    have g3 : -9223372036854775808 ≤ n % 10 := by omega
    have g4 : n % 10 ≤ 9223372036854775807 := by omega
    have hz1 := wtext_small (n.tdiv 10) g1 g2
    have hz2 := wtext_small (n % 10) g3 g4
    have hz : ¬ 9223372036854775807 < (wtext (n.tdiv 10)).size + (wtext (n % 10)).size := by omega
    clear hz1 hz2
    clear e7 q1 q2 q3 q2a q2b q2c hq c1 hm IH
    go_enter Tryz.func20, Tryz.ntmps20
    go_wp2_with fail
    refine (ih _).out.mono ?_
    rintro e1 w1 ⟨rfl, rfl⟩
    go_wp2_with fail
    refine (hd _).out.mono ?_
    rintro e1 w1 ⟨rfl, rfl⟩
    go_wp2_with fail
    go_ret
    rw [e.out]
    exact ⟨rfl, rfl⟩
  · obtain ⟨q2a, q2b, q2c⟩ := q3 (by omega)
    have c4 : ¬ 0 ≤ n := by omega
    by_cases c6 : -10 < n
    · have e := hid (wtext_neg (n := n) (by omega))
      have hd : ∀ w', Hid _ := fun w' => hid (rtext_digit (-n) w' (by omega) (by omega))
      have g1 : -9223372036854775808 ≤ -n := by omega
      have g2 : -n ≤ 9223372036854775807 := by omega
      have hz1 := wtext_small (-n) g1 g2
      have hz : ¬ 9223372036854775807 < 1 + (wtext (-n)).size := by omega
      clear hz1
      clear q1 q2 q3 q2a q2b q2c c1 hm IH
      go_enter Tryz.func20, Tryz.ntmps20
      go_wp2_with fail
      refine (hd _).out.mono ?_
      rintro e1 w1 ⟨rfl, rfl⟩
      go_wp2_with fail
      go_ret
      rw [e.out]
      exact ⟨rfl, rfl⟩
    have e := hid (wtext_less (n := n) (by omega))
    have hq : (n.tdiv 10).natAbs < m := by omega
    have ih : ∀ w', Hid _ := fun w' => hid (IH (n.tdiv 10) w' (by omega) (by omega) (by omega))
    have hd : ∀ w', Hid _ := fun w' => hid (rtext_digit (-(n.tmod 10)) w' (by omega) (by omega))
    have g1 : -9223372036854775808 ≤ n.tdiv 10 := by omega
    have g2 : n.tdiv 10 ≤ 9223372036854775807 := by omega
    have g3 : -9223372036854775808 ≤ n.tmod 10 := by omega
    have g4 : n.tmod 10 ≤ 9223372036854775807 := by omega
    have g5 : -9223372036854775808 ≤ -(n.tmod 10) := by omega
    have g6 : -(n.tmod 10) ≤ 9223372036854775807 := by omega
    have hz1 := wtext_small (n.tdiv 10) g1 g2
    have hz2 := wtext_small (-(n.tmod 10)) g5 g6
    have hz : ¬ 9223372036854775807 < (wtext (n.tdiv 10)).size + (wtext (-(n.tmod 10))).size := by omega
    clear hz1 hz2
    clear q1 q2 q3 q2a q2b q2c hq c1 hm IH
    go_enter Tryz.func20, Tryz.ntmps20
    go_wp2_with fail
    refine (ih _).out.mono ?_
    rintro e1 w1 ⟨rfl, rfl⟩
    go_wp2_with fail
    refine (hd _).out.mono ?_
    rintro e1 w1 ⟨rfl, rfl⟩
    go_wp2_with fail
    go_ret
    rw [e.out]
    exact ⟨rfl, rfl⟩
theorem rtext_all (m : Nat) : ∀ (n : Int) (w : World), n.natAbs ≤ m → -9223372036854775808 ≤ n → n ≤ 9223372036854775807 →
    Calls Tryz.prog 20 #[.int .i64 n] w fun e w' => e = .returned (.string (wtext n)) ∧ w' = w := by
  induction m with
  | zero => exact fun n w => rtext_step 0 (fun n w h => by omega) n w
  | succ m ih => exact fun n w => rtext_step (m + 1) (fun n w h => ih n w (by omega)) n w

theorem rtext_any (n : Int) (w : World) (hn : -9223372036854775808 ≤ n ∧ n ≤ 9223372036854775807) :
    Calls Tryz.prog 20 #[.int .i64 n] w fun e w' => e = .returned (.string (wtext n)) ∧ w' = w := rtext_all n.natAbs n w (Nat.le_refl _) hn.1 hn.2

end Go.Proofs.YtkmjlpmepggciaaGreatDoor

namespace Go.Proofs.YtkmjlpmepggciaaGreatDoor
open Go Go.RowKit

set_option maxRecDepth 100000 in
set_option maxHeartbeats 2000000 in
theorem do_GET {w0 w : World} {l r : Hp} {sb : Nat} {S : St} {g off : Nat} {c : ByteArray} {k : ByteArray} {ws : List ByteArray} (h : Ctx w0 w l r sb S g off (c :: k :: ws)) (hc : wcheck (c :: k :: ws) = (spGET, ByteArray.empty)) (now : Int) (cap : Nat) (hcap : (c :: k :: ws).length ≤ cap) (hcap2 : cap ≤ 1099511627776)  :
    Calls Tryz.prog 17 #[ptr sb, .int .i64 now, .slice (some ⟨g, off, none⟩) (c :: k :: ws).length cap] w (DoPost w0 r sb (tGet S now k).1 (tGet S now k).2) := by
  have H := h.alloc ZeroVal
  have hchk := check_some H.st (H.args.more (x := l)) cap
  rw [hc] at hchk
  clear hc
  unfold CheckPost Sp.val specVal spGET at hchk
  simp only at hchk
  generalize hT : tGet S now k = T
  replace hT := hid hT
  have hx : ∀ (w' : World) (x : Hp), Step w0 [] w' (l ++ (x ++ r)) → Ctx w0 w' l (x ++ r) sb S g (off + 1) (k :: ws) := fun w' x hS => (h.at (x := x) rfl hS).tail
  have hn : 1 < (c :: k :: ws).length := by simp only [List.length_cons]; omega
  obtain ⟨n, hlen⟩ : ∃ n, (c :: k :: ws).length = n := ⟨_, rfl⟩
  have hlen1 : (k :: ws).length = n - 1 := by rw [← hlen]; simp only [List.length_cons]; omega
  have hcap' : n ≤ cap := by rw [← hlen]; exact hcap
  rw [hlen] at hchk hn ⊢
  have hc1 : ¬ cap - 1 = 0 := by omega
  have hn3 : (1 : Int) < (n : Int) := by omega
  have hn4 : 0 < n := by omega
  replace hlen := hid hlen
  replace hlen1 := hid hlen1
  replace hchk := hid hchk
  replace hx := hid hx
  replace hcap := hid hcap
  clear h H
  go_enter Tryz.func17, Tryz.ntmps17
  go_wp2_with fail
  refine hchk.out.mono ?_
  rintro e w2 ⟨rfl, S2⟩
  clear hchk
  go_upto_region 2 with fail
  have S3 := S2.alloc (.cells #[.string ⟨#[71, 69, 84]⟩, .int .i64 1, .int .i64 2, .int .i64 2, .int .i64 1, .int .i64 1, .int .i64 1] 65)
  generalize hw3 : w2.alloc _ = w3
  replace S3 : Step w0 [] w3 _ := hw3 ▸ S3
  clear hw3 S2
  generalize w2.heap.size = b1 at S3 ⊢
  generalize w.heap.size = b at S3 ⊢
  have nm := cells_get S3.own.head 0
  simp only [List.getElem?_toArray, List.getElem?_cons_zero] at nm
  go_upto_region 5 with fail
  have S4 := S3.alloc (JobObj sb now g (off + 1) (n - 1) (cap - 1))
  generalize hw4 : w3.alloc _ = w4
  replace S4 : Step w0 [] w4 _ := hw4 ▸ S4
  clear hw4 S3 nm
  generalize w3.heap.size = b2 at S4 ⊢
  have nm := cells_get S4.own.tail.head 0
  simp only [List.getElem?_toArray, List.getElem?_cons_zero] at nm
  obtain ⟨j0, j1, j2⟩ := jobAt S4.own.head
  obtain ⟨X, hX⟩ : ∃ X : Hp, X = [(b2, JobObj sb now g (off + 1) (n - 1) (cap - 1)), (b1, .cells #[.string ⟨#[71, 69, 84]⟩, .int .i64 1, .int .i64 2, .int .i64 2, .int .i64 1, .int .i64 1, .int .i64 1] 65 (0, 0)), (b, ZeroVal)] := ⟨_, rfl⟩
  have S5 : Step w0 [] w4 (l ++ (X ++ r)) := S4.permR (perm_by fun f => by
    rw [hX]; simp only [List.map_append, List.sum_append, List.map_cons, List.sum_cons, List.map_nil, List.sum_nil]; omega)
  have hend : Hid (∀ (w' : World) (l3 : Hp), Step w0 [] w' (l3 ++ (X ++ r)) → Step w0 [] w' ((b, ZeroVal) :: (l3 ++ r ++ [(b2, JobObj sb now g (off + 1) (n - 1) (cap - 1)), (b1, .cells #[.string ⟨#[71, 69, 84]⟩, .int .i64 1, .int .i64 2, .int .i64 2, .int .i64 1, .int .i64 1, .int .i64 1] 65 (0, 0))]))) := hid fun w' l3 h => h.permR (perm_by fun f => by
    rw [hX]; simp only [List.map_append, List.sum_append, List.map_cons, List.sum_cons, List.map_nil, List.sum_nil]; omega)
  clear S4
  replace hX := hid hX
  obtain ⟨R, hR⟩ : ∃ R : Hp, R = [(b2, JobObj sb now g (off + 1) (n - 1) (cap - 1)), (b1, .cells #[.string ⟨#[71, 69, 84]⟩, .int .i64 1, .int .i64 2, .int .i64 2, .int .i64 1, .int .i64 1, .int .i64 1] 65 (0, 0))] ++ r := ⟨_, rfl⟩
  have H := hx.out w4 [(b2, JobObj sb now g (off + 1) (n - 1) (cap - 1)), (b1, .cells #[.string ⟨#[71, 69, 84]⟩, .int .i64 1, .int .i64 2, .int .i64 2, .int .i64 1, .int .i64 1, .int .i64 1] 65 (0, 0))] (S5.pick (m := [(b, ZeroVal)]) (perm_by fun f => by
    rw [hX.out]; simp only [List.map_append, List.sum_append, List.map_cons, List.sum_cons, List.map_nil, List.sum_nil]; omega))
  rw [← hR] at H
  have S6 : Step w0 [] w4 ([(b, ZeroVal)] ++ (l ++ R)) := S5.permR (perm_by fun f => by
    rw [hR, hX.out]; simp only [List.map_append, List.sum_append, List.map_cons, List.sum_cons, List.map_nil, List.sum_nil]; omega)
  have hget : ∀ (w' : World) (x : Hp), Hid (Step w0 [] w' (x ++ (l ++ R)) → _) := fun w' x => hid fun hw => H.get k (by simp) now x hw
  have htold : ∀ (w' : World) (L : Hp) (v : Value), Hid (Step w0 [] w' L → _) := fun w' L v => hid fun hw => told_all hw (S.look k now) v
  have hs1 : Hid (Step w0 [] w4.drew ([(b, ZeroVal)] ++ (l ++ R))) := hid S6.drew
  have hx1 : Hid (InX w0 R w4.drew) := hid ⟨[(b, ZeroVal)] ++ l, by rw [List.append_assoc]; exact S6.drew⟩
  have hkeep : Hid (∀ w' : World, Hid (InX w0 R w') → w'.cell? ⟨b2, 0, none⟩ = some (ptr sb) ∧ w'.cell? ⟨g, off + 1, none⟩ = some (.string k) ∧ Hid (InX w0 R w')) := hid fun w' hw => by
    obtain ⟨x, hw2⟩ := hw.out
    exact ⟨cells_get (hw2.own.right.at_ (b2, JobObj sb now g (off + 1) (n - 1) (cap - 1)) (by rw [hR]; simp)) 0, H.args.at_ w' x hw2 0 k rfl, hw⟩
  have ha : Hid (T = (S.get k now, toldOf (S.look k now))) := hid hT.out.symm
  generalize toldOf (S.look k now) = a at htold ha
  generalize ((S.look k now).getD zeroItm).kind = kd at hget htold
  generalize ((S.look k now).getD zeroItm).text = tx at hget htold
  generalize (S.look k now).isSome = is at hget htold
  generalize ((S.look k now).getD zeroItm).fs = fs at hget
  unfold lfVal ansVal at htold
  have hend : Hid (∀ (w' : World) (l3 vl : Hp), Step w0 [] w' (l3 ++ (vl ++ R)) → Step w0 [] w' (l3 ++ r)) := hid fun w' l3 vl h => h.pick (m := vl ++ [(b2, JobObj sb now g (off + 1) (n - 1) (cap - 1)), (b1, .cells #[.string ⟨#[71, 69, 84]⟩, .int .i64 1, .int .i64 2, .int .i64 2, .int .i64 1, .int .i64 1, .int .i64 1] 65 (0, 0))]) (perm_by fun f => by
    rw [hR]; simp only [List.map_append, List.sum_append, List.map_cons, List.sum_cons, List.map_nil, List.sum_nil]; omega)
  clear hx hT hlen1 H S5 S6 hR hX
  go_upto_region 7 with fail
  go_region_held3 (fun w' => w'.cell? ⟨b2, 0, none⟩ = some (ptr sb) ∧ w'.cell? ⟨g, off + 1, none⟩ = some (.string k) ∧ Hid (InX w0 R w'))
    (first | (with_reducible exact hkeep.out _ hx1) | (with_reducible exact hkeep.out _ (hset.out _ _ _ _ _ _)) | (with_reducible exact hkeep.out _ (by assumption)) | (fail "keep"))
    (first | (go_at_call 42; refine ((hget _ _).out hs1.out).mono ?_; rintro e w5 ⟨va, vn, vc, vl, l2, rfl, hat, hX2, S2, hx2⟩) | (go_at_call 44; refine ((htold _ _ _).out S2.out).mono ?_; rintro e w6 ⟨rfl, S3⟩; obtain ⟨⟨c0, hc0⟩, ⟨c1, hc1⟩, ⟨c2, hc2⟩, ⟨c3, hc3⟩, ⟨c4, hc4⟩, ⟨c5, hc5⟩, fz, hlt⟩ := cells6' S3.own.head; have hset : Hid (∀ v0 v1 v2 v3 v4 v5, _) := hid fun v0 v1 v2 v3 v4 v5 => InX.set6 (A := l2 ++ vl) (R := R) (by rw [List.append_assoc]; exact S3) v0 v1 v2 v3 v4 v5; have hx3 : Hid (InX w0 R w6) := hid (S3.inX ([_] ++ (l2 ++ vl)) (by rw [List.append_assoc, List.append_assoc])); replace S3 := hid S3))
  all_goals (
    have S9 := hid (hend.out _ l2 vl (S3.out.setLf a))
    clear hend hget htold hs1 hx1 hkeep hset hx2 hx3 S2 S3
    go_wp2_with fail
    refine bodyPost_ret (v := .tuple #[lfVal a, .bool true]) (by simp [results, Tryz.results17, go_sem, lfVal, ansVal, *] <;> rfl) rfl ?_
    rw [ha.out]
    exact ⟨rfl, l2, hX2.out, S9.out⟩)

end Go.Proofs.YtkmjlpmepggciaaGreatDoor

namespace Go.Proofs.YtkmjlpmepggciaaGreatDoor
open Go Go.RowKit

def NoPost (w0 : World) (r : Hp) (e : Ending) (w' : World) : Prop := e = .returned (.tuple #[ansVal 0 ByteArray.empty 0 (.slice none 0 0), .bool false]) ∧ Step w0 [] w' r
def spPING : Sp := ⟨⟨#[80, 73, 78, 71]⟩, 3, 1, 2, 0, 0, 0⟩

set_option maxRecDepth 100000 in
set_option maxHeartbeats 2000000 in
theorem do_PING {w0 w : World} {l r : Hp} {sb : Nat} {S : St} {g off : Nat} {c : ByteArray} (h : Ctx w0 w l r sb S g off [c]) (hc : wcheck [c] = (spPING, ByteArray.empty)) (now : Int) :
    Calls Tryz.prog 17 #[ptr sb, .int .i64 now, .slice (some ⟨g, off, none⟩) 1 1] w (NoPost w0 (l ++ r)) := by
  have H := h.alloc ZeroVal
  have hchk := check_some H.st (H.args.more (x := l)) 1
  rw [hc] at hchk
  clear hc
  unfold CheckPost Sp.val specVal spPING at hchk
  simp only [List.length_cons, List.length_nil, Nat.zero_add] at hchk
  replace hchk := hid hchk
  clear h H
  go_enter Tryz.func17, Tryz.ntmps17
  go_wp2_with fail
  refine hchk.out.mono ?_
  rintro e w2 ⟨rfl, S2⟩
  clear hchk
  go_upto_region 2 with fail
  have S3 := S2.alloc (.cells #[.string ⟨#[80, 73, 78, 71]⟩, .int .i64 3, .int .i64 1, .int .i64 2, .int .i64 0, .int .i64 0, .int .i64 0] 65)
  generalize hw3 : w2.alloc _ = w3
  replace S3 : Step w0 [] w3 _ := hw3 ▸ S3
  clear hw3 S2
  generalize w2.heap.size = b1 at S3 ⊢
  generalize w.heap.size = b at S3 ⊢
  have nm := cells_get S3.own.head 0
  simp only [List.getElem?_toArray, List.getElem?_cons_zero] at nm
  replace S3 := hid S3
  go_upto_region 5 with fail
  have S4 := S3.out.alloc (JobObj sb now g off 0 0)
  generalize hw4 : w3.alloc _ = w4
  replace S4 : Step w0 [] w4 _ := hw4 ▸ S4
  clear hw4 S3 nm
  generalize w3.heap.size = b2 at S4 ⊢
  have nm := cells_get S4.own.tail.head 0
  simp only [List.getElem?_toArray, List.getElem?_cons_zero] at nm
  have S5 : Step w0 [] w4 ((b, ZeroVal) :: (l ++ r ++ [(b2, JobObj sb now g off 0 0), (b1, .cells #[.string ⟨#[80, 73, 78, 71]⟩, .int .i64 3, .int .i64 1, .int .i64 2, .int .i64 0, .int .i64 0, .int .i64 0] 65 (0, 0))])) := S4.permR (perm_by fun f => by
    simp only [List.map_append, List.sum_append, List.map_cons, List.sum_cons, List.map_nil, List.sum_nil]; omega)
  obtain ⟨⟨c0, hc0⟩, ⟨c1, hc1⟩, ⟨c2, hc2⟩, ⟨c3, hc3⟩, ⟨c4, hc4⟩, ⟨c5, hc5⟩, fz, hlt⟩ := cells6' S5.own.head
  have S9 := hid ((((((((S5.set 0 (.int .i64 0)).set 1 (.string ByteArray.empty)).set 2 (.int .i64 0)).set 3 (.float .f64 0)).set 4 (.bool false)).set 5 (.slice none 0 0)).less (List.sublist_cons_self _ _)).less (List.sublist_append_left _ _))
  clear S4 S5
  go_wp2_with fail
  refine bodyPost_ret (v := .tuple #[ansVal 0 ByteArray.empty 0 (.slice none 0 0), .bool false]) (by simp [results, Tryz.results17, go_sem, ansVal, *] <;> rfl) rfl ?_
  exact ⟨rfl, S9.out⟩

end Go.Proofs.YtkmjlpmepggciaaGreatDoor

namespace Go.Proofs.YtkmjlpmepggciaaGreatDoor
open Go Go.RowKit

theorem Step.letGo {w0 w : World} {l r : Hp} {p : Nat × Obj} (h : Step w0 [] w (l ++ (p :: r))) : Step w0 [] w (l ++ r) :=
  h.pick (l2 := l ++ r) (m := [p]) (perm_by fun f => by simp only [List.map_append, List.sum_append, List.map_cons, List.sum_cons, List.map_nil, List.sum_nil]; omega)
theorem Step.keepLf {w0 w : World} {l r : Hp} (h : Step w0 [] w (l ++ r)) (o : Obj) : Step w0 [] (w.alloc o) (l ++ ((w.heap.size, o) :: r)) :=
  (h.alloc o).permR (perm_by fun f => by simp only [List.map_append, List.sum_append, List.map_cons, List.sum_cons]; omega)

/-- What a call of texts.Do answers, and what it leaves. -/
def CallPost (w0 : World) (r : Hp) (sb : Nat) (T : St × Lf) (e : Ending) (w' : World) : Prop := e = .returned (.tuple #[ansVal T.2.kind T.2.text T.2.n (.slice none 0 0), .bool true]) ∧ ∃ l', IsStore l' sb T.1 ∧ Step w0 [] w' (l' ++ r)
theorem DoPost.call {w0 w' : World} {r : Hp} {p : Nat × Obj} {sb : Nat} {S : St} {a : Lf} {e : Ending} (h : DoPost w0 (p :: r) sb S a e w') : CallPost w0 r sb (S, a) e w' := by
  obtain ⟨rfl, l', h1, h2⟩ := h
  exact ⟨rfl, l', h1, h2.letGo⟩

theorem call_SET {w0 w : World} {l r : Hp} {sb : Nat} {S : St} {c k m : ByteArray} {ws : List ByteArray} (hS : Step w0 [] w (l ++ r)) (hG : Glob w0) (hX : IsStore l sb S) (hT : Tight S ∧ S.load ≤ 1000000000000) (hs : ∀ s ∈ (c :: k :: m :: ws), s.size ≤ 1099511627776) (hc : wcheck (c :: k :: m :: ws) = (spSET, ByteArray.empty)) (now : Int) (hnow : 0 ≤ now ∧ now ≤ 4611686018427387904) (hf : (c :: k :: m :: ws).length ≤ 1099511627776) :
    Calls Tryz.prog 17 #[ptr sb, .int .i64 now, .slice (some ⟨w.heap.size, 0, none⟩) (c :: k :: m :: ws).length (c :: k :: m :: ws).length] (w.alloc (WsObj (c :: k :: m :: ws))) (CallPost w0 r sb (tSet S now k m ws)) :=
  (do_SET (Ctx.call hS hG hX hT.1 hT.2 (c :: k :: m :: ws) hs hf) hc now (c :: k :: m :: ws).length (Nat.le_refl _) hf hnow).mono fun _ _ h => h.call

theorem call_GET {w0 w : World} {l r : Hp} {sb : Nat} {S : St} {c k : ByteArray} (hS : Step w0 [] w (l ++ r)) (hG : Glob w0) (hX : IsStore l sb S) (hT : Tight S ∧ S.load ≤ 1000000000000) (hs : ∀ s ∈ (c :: k :: []), s.size ≤ 1099511627776) (hc : wcheck (c :: k :: []) = (spGET, ByteArray.empty)) (now : Int) :
    Calls Tryz.prog 17 #[ptr sb, .int .i64 now, .slice (some ⟨w.heap.size, 0, none⟩) (c :: k :: []).length (c :: k :: []).length] (w.alloc (WsObj (c :: k :: []))) (CallPost w0 r sb (tGet S now k)) :=
  (do_GET (Ctx.call hS hG hX hT.1 hT.2 (c :: k :: []) hs (by simp)) hc now (c :: k :: []).length (Nat.le_refl _) (by simp) ).mono fun _ _ h => h.call

theorem call_APPEND {w0 w : World} {l r : Hp} {sb : Nat} {S : St} {c k m : ByteArray} (hS : Step w0 [] w (l ++ r)) (hG : Glob w0) (hX : IsStore l sb S) (hT : Tight S ∧ S.load ≤ 1000000000000) (hs : ∀ s ∈ (c :: k :: m :: []), s.size ≤ 1099511627776) (hc : wcheck (c :: k :: m :: []) = (spAPPEND, ByteArray.empty)) (now : Int) :
    Calls Tryz.prog 17 #[ptr sb, .int .i64 now, .slice (some ⟨w.heap.size, 0, none⟩) (c :: k :: m :: []).length (c :: k :: m :: []).length] (w.alloc (WsObj (c :: k :: m :: []))) (CallPost w0 r sb (tJoin S now k m)) :=
  (do_APPEND (Ctx.call hS hG hX hT.1 hT.2 (c :: k :: m :: []) hs (by simp)) hc now (c :: k :: m :: []).length (Nat.le_refl _) (by simp) ).mono fun _ _ h => h.call

theorem call_INCRBY {w0 w : World} {l r : Hp} {sb : Nat} {S : St} {c k m : ByteArray} (hS : Step w0 [] w (l ++ r)) (hG : Glob w0) (hX : IsStore l sb S) (hT : Tight S ∧ S.load ≤ 1000000000000) (hs : ∀ s ∈ (c :: k :: m :: []), s.size ≤ 1099511627776) (hc : wcheck (c :: k :: m :: []) = (spINCRBY, ByteArray.empty)) (now : Int) :
    Calls Tryz.prog 17 #[ptr sb, .int .i64 now, .slice (some ⟨w.heap.size, 0, none⟩) (c :: k :: m :: []).length (c :: k :: m :: []).length] (w.alloc (WsObj (c :: k :: m :: []))) (CallPost w0 r sb (tAddText S now k m false)) :=
  (do_INCRBY (Ctx.call hS hG hX hT.1 hT.2 (c :: k :: m :: []) hs (by simp)) hc now (c :: k :: m :: []).length (Nat.le_refl _) (by simp) ).mono fun _ _ h => h.call

theorem call_STRLEN {w0 w : World} {l r : Hp} {sb : Nat} {S : St} {c k : ByteArray} (hS : Step w0 [] w (l ++ r)) (hG : Glob w0) (hX : IsStore l sb S) (hT : Tight S ∧ S.load ≤ 1000000000000) (hs : ∀ s ∈ (c :: k :: []), s.size ≤ 1099511627776) (hc : wcheck (c :: k :: []) = (spSTRLEN, ByteArray.empty)) (now : Int) :
    Calls Tryz.prog 17 #[ptr sb, .int .i64 now, .slice (some ⟨w.heap.size, 0, none⟩) (c :: k :: []).length (c :: k :: []).length] (w.alloc (WsObj (c :: k :: []))) (CallPost w0 r sb (tSize S now k)) :=
  (do_STRLEN (Ctx.call hS hG hX hT.1 hT.2 (c :: k :: []) hs (by simp)) hc now (c :: k :: []).length (Nat.le_refl _) (by simp) ).mono fun _ _ h => h.call

end Go.Proofs.YtkmjlpmepggciaaGreatDoor
