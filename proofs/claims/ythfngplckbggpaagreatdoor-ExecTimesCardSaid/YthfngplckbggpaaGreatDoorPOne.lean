/-
  A store of one key: what the commands of texts do to it. No program in sight.
  The digits of a number, digit by digit: the plain law. No program in sight.
  texts.Do, a command that is none of texts (printed by gen_do.py).
  fields.does: the map of commands of hashes.
-/
import Derived.Test.YthfngplckbggpaaGreatDoorP30
import Derived.Test.YthfngplckbggpaaGreatDoorP32
import Derived.Test.YthfngplckbggpaaGreatDoorP28
set_option linter.unusedVariables false
set_option linter.unusedSimpArgs false
namespace Go.Proofs.YthfngplckbggpaaGreatDoor
open Go

theorem wtext_small (n : Int) (h0 : -9223372036854775808 ≤ n) (h1 : n ≤ 9223372036854775807) : (wtext n).size ≤ 21 := by
  have := Lib.itoa_length_le n h0 h1
  have e : (wtext n).size = (Lib.itoa n).length := by simp [wtext, ByteArray.size]
  omega
/-- A store of one key. -/
def one (k : ByteArray) (it : Itm) (D : AL Int) (ev : List (Int × ByteArray)) (bud : Nat) : St := ⟨[(k, it)], D, ev, bud⟩
theorem one_mlook {k : ByteArray} {it : Itm} : mlook [(k, it)] k = some it := by simp [mlook]
theorem one_mdel {k : ByteArray} {it : Itm} : mdel [(k, it)] k = [] := by simp [mdel]
theorem one_touch {k : ByteArray} {it : Itm} {D : AL Int} {ev : List (Int × ByteArray)} {bud : Nat} : (one k it D ev bud).touch k = one k it D ev bud := by
  simp only [St.touch, one, one_mlook, one_mdel, List.nil_append]
theorem one_due_nil {k : ByteArray} {it : Itm} {ev : List (Int × ByteArray)} {bud : Nat} (now : Int) : (one k it [] ev bud).due k now = one k it [] ev bud := by
  simp [St.due, one, mlook]
theorem one_due_end {k : ByteArray} {it : Itm} {ev : List (Int × ByteArray)} {bud : Nat} {t now : Int} (h : now < t) : (one k it [(k, t)] ev bud).due k now = one k it [(k, t)] ev bud := by
  have : ¬ t ≤ now := by omega
  simp [St.due, one, mlook, this]
theorem one_look {k : ByteArray} {it : Itm} {D : AL Int} {ev : List (Int × ByteArray)} {bud : Nat} {now : Int} (h : (one k it D ev bud).due k now = one k it D ev bud) : (one k it D ev bud).look k now = some it := by
  rw [St.look, h]; exact one_mlook
theorem one_get {k : ByteArray} {it : Itm} {D : AL Int} {ev : List (Int × ByteArray)} {bud : Nat} {now : Int} (h : (one k it D ev bud).due k now = one k it D ev bud) : (one k it D ev bud).get k now = one k it D ev bud := by
  rw [St.get, h, one_touch]
theorem one_tight {k : ByteArray} {it : Itm} {D : AL Int} {ev : List (Int × ByteArray)} {bud : Nat} (h : cost k it ≤ bud) : Tight (one k it D ev bud) := by
  simp only [Tight, one, bytesOf, List.map_cons, List.map_nil, List.sum_cons, List.sum_nil]; omega
theorem one_load {k : ByteArray} {it : Itm} {D : AL Int} {ev : List (Int × ByteArray)} {bud : Nat} : (one k it D ev bud).load = ev.length + 1 := rfl

theorem evict_not {S : St} {n : Nat} {k : ByteArray} (h : Tight S) : S.evict n k = S := by
  cases n with
  | zero => rfl
  | succ n =>
    unfold Tight at h
    unfold St.evict
    rw [if_neg (by omega)]
theorem one_put {k : ByteArray} {it it' : Itm} {D : AL Int} {ev : List (Int × ByteArray)} {bud : Nat} {now : Int} (h : (one k it D ev bud).due k now = one k it D ev bud) (hc : cost k it' ≤ bud) (keep : Bool) :
    (one k it D ev bud).put k it' keep now = one k it' (if keep then D else mdel D k) (ev ++ [(1, k)]) bud := by
  have e : (one k it D ev bud).lay k it' keep = one k it' (if keep then D else mdel D k) (ev ++ [(1, k)]) bud := by
    simp only [St.lay, one, one_mdel, List.nil_append]
  rw [St.put, h, e, evict_not (one_tight hc)]
theorem no_put {k : ByteArray} {it : Itm} {ev : List (Int × ByteArray)} {bud : Nat} {now : Int} (hc : cost k it ≤ bud) (keep : Bool) :
    (⟨[], [], ev, bud⟩ : St).put k it keep now = one k it [] (ev ++ [(1, k)]) bud := by
  have e0 : (⟨[], [], ev, bud⟩ : St).due k now = ⟨[], [], ev, bud⟩ := rfl
  have e : (⟨[], [], ev, bud⟩ : St).lay k it keep = one k it [] (ev ++ [(1, k)]) bud := by
    cases keep <;> rfl
  rw [St.put, e0, e, evict_not (one_tight hc)]
theorem putE_text {S : St} {k s : ByteArray} (hk : k.size ≤ 512) (hs : s.size ≤ 4096) (hc : cost k (textItm s) ≤ S.bud) : S.putE k (textItm s) = 0 := by
  have h1 : ¬ (512 < k.size ∨ ((textItm s).kind = 1 ∧ 4096 < (textItm s).text.size)) := by
    rintro (h | ⟨_, h⟩)
    · omega
    · have : (textItm s).text = s := rfl
      rw [this] at h; omega
  rw [St.putE, if_neg h1, if_neg (by omega)]
theorem cost_txt {k s : ByteArray} : cost k (textItm s) ≤ 48 + k.size + max 8 s.size := by
  have e : cost k (textItm s) = 48 + k.size + (if (wnum s).isSome then 8 else s.size) := rfl
  rw [e]
  split <;> omega

theorem tSetO_plain {S : St} {now : Int} {k s : ByteArray} : tSet S now k s [] = if (S.due k now).putE k (textItm s) = 0 then ((S.due k now).putG k (textItm s) false now, lfOk) else ((S.due k now).putG k (textItm s) false now, lfErr ((S.due k now).putE k (textItm s))) := rfl

abbrev kk : ByteArray := ⟨#[107]⟩
theorem kk_size : kk.size = 1 := rfl
theorem cost_kk {s : ByteArray} (h : s.size ≤ 4096) : cost kk (textItm s) ≤ 4145 := by
  have := @cost_txt kk s
  rw [kk_size] at this
  omega

/-- A text under k in a store of nothing else, without an end. -/
def txt (s : ByteArray) (ev : List (Int × ByteArray)) (bud : Nat) : St := one kk (textItm s) [] ev bud
theorem txt_due {s : ByteArray} {ev : List (Int × ByteArray)} {bud : Nat} (now : Int) : (txt s ev bud).due kk now = txt s ev bud := one_due_nil now
theorem txt_look {s : ByteArray} {ev : List (Int × ByteArray)} {bud : Nat} (now : Int) : (txt s ev bud).look kk now = some (textItm s) := one_look (txt_due now)
theorem txt_get {s : ByteArray} {ev : List (Int × ByteArray)} {bud : Nat} (now : Int) : (txt s ev bud).get kk now = txt s ev bud := one_get (txt_due now)
theorem txt_tight {s : ByteArray} {ev : List (Int × ByteArray)} {bud : Nat} (h : s.size ≤ 4096) (hb : 4145 ≤ bud) : Tight (txt s ev bud) := one_tight (Nat.le_trans (cost_kk h) hb)
theorem txt_load {s : ByteArray} {ev : List (Int × ByteArray)} {bud : Nat} : (txt s ev bud).load = ev.length + 1 := rfl
theorem txt_bud {s : ByteArray} {ev : List (Int × ByteArray)} {bud : Nat} : (txt s ev bud).bud = bud := rfl
theorem txt_putE {s t : ByteArray} {ev : List (Int × ByteArray)} {bud : Nat} (h : t.size ≤ 4096) (hb : 4145 ≤ bud) : (txt s ev bud).putE kk (textItm t) = 0 :=
  putE_text (by rw [kk_size]; omega) h (by rw [txt_bud]; exact Nat.le_trans (cost_kk h) hb)
theorem txt_putG {s t : ByteArray} {ev : List (Int × ByteArray)} {bud : Nat} (h : t.size ≤ 4096) (hb : 4145 ≤ bud) (keep : Bool) (now : Int) : (txt s ev bud).putG kk (textItm t) keep now = txt t (ev ++ [(1, kk)]) bud := by
  rw [St.putG, if_pos (txt_putE h hb)]
  have := one_put (k := kk) (it := textItm s) (it' := textItm t) (D := []) (ev := ev) (bud := bud) (now := now) (one_due_nil now) (Nat.le_trans (cost_kk h) hb) keep
  rw [txt, this]
  cases keep <;> rfl
theorem tKeep_txt {s t : ByteArray} {ev : List (Int × ByteArray)} {bud : Nat} (h : t.size ≤ 4096) (hb : 4145 ≤ bud) (now : Int) (a : Lf) : tKeep (txt s ev bud) now kk (textItm t) 0 a = (txt t (ev ++ [(1, kk)]) bud, a) := by
  rw [tKeep, if_pos rfl, txt_putG h hb, txt_putE h hb, if_pos rfl]

/-- The document's store of so many bytes. -/
theorem new_set {b : Int} {bud : Nat} (hb : newSt b = ⟨[], [], [], bud⟩) (hb2 : 4145 ≤ bud) {s : ByteArray} (h : s.size ≤ 4096) (now : Int) : tSet (newSt b) now kk s [] = (txt s [(1, kk)] bud, lfOk) := by
  have e0 : (⟨[], [], [], bud⟩ : St).due kk now = ⟨[], [], [], bud⟩ := rfl
  have e1 : (⟨[], [], [], bud⟩ : St).putE kk (textItm s) = 0 := putE_text (by rw [kk_size]; omega) h (Nat.le_trans (cost_kk h) hb2)
  rw [hb, tSetO_plain, e0, if_pos e1, St.putG, if_pos e1, no_put (Nat.le_trans (cost_kk h) hb2)]
  rfl
theorem txt_tGet {s : ByteArray} {ev : List (Int × ByteArray)} {bud : Nat} (now : Int) : tGet (txt s ev bud) now kk = (txt s ev bud, lfText s) := by
  rw [tGet, txt_get, txt_look]; rfl
theorem txt_tSize {s : ByteArray} {ev : List (Int × ByteArray)} {bud : Nat} (now : Int) : tSize (txt s ev bud) now kk = (txt s ev bud, lfInt s.size) := by
  rw [tSize, txt_get, txt_look]; rfl
theorem txt_tJoin {s t : ByteArray} {ev : List (Int × ByteArray)} {bud : Nat} (h : s.size + t.size ≤ 4096) (hb : 4145 ≤ bud) (now : Int) : tJoin (txt s ev bud) now kk t = (txt (s ++ t) (ev ++ [(1, kk)]) bud, lfInt ((s.size : Int) + (t.size : Int))) := by
  have e : joinOf (some (textItm s)) t = (textItm (s ++ t), 0) := by
    have h1 : ¬ (4096 < (textItm s).text.size + t.size) := by
      have : (textItm s).text = s := rfl
      rw [this]; omega
    have h2 : ¬ (textItm s).kind = 2 := by show ¬ (1 : Int) = 2; decide
    rw [joinOf]
    simp only [h1, h2, if_false]
    rfl
  have hs : (s ++ t).size = s.size + t.size := ByteArray.size_append
  rw [tJoin, txt_get, txt_look, e]
  rw [tKeep_txt (by rw [hs]; exact h) hb]
  have : (textItm (s ++ t)).text = s ++ t := rfl
  rw [this, hs, Int.natCast_add]

end Go.Proofs.YthfngplckbggpaaGreatDoor

namespace Go.Proofs.YthfngplckbggpaaGreatDoor
open Go

def dig (d : Int) : ByteArray := ⟨#[UInt8.ofNat (48 + d.toNat)]⟩

theorem ba_append (a b : List UInt8) : (⟨a.toArray⟩ : ByteArray) ++ ⟨b.toArray⟩ = ⟨(a ++ b).toArray⟩ := by
  apply ByteArray.ext
  simp

theorem wtext_digit {n : Int} (h0 : 0 ≤ n) (h1 : n < 10) : wtext n = dig n := by
  obtain ⟨u, rfl⟩ : ∃ u : Nat, n = u := ⟨n.toNat, by omega⟩
  have hu : u < 10 := by omega
  rw [wtext, Lib.itoa, if_neg (by omega), Int.toNat_natCast, Lib.decDigits, dif_pos hu]
  rfl
theorem wtext_more {n : Int} (h : 10 ≤ n) : wtext n = wtext (n.tdiv 10) ++ wtext (n.tmod 10) := by
  obtain ⟨u, rfl⟩ : ∃ u : Nat, n = u := ⟨n.toNat, by omega⟩
  have e1 : (u : Int).tdiv 10 = ((u / 10 : Nat) : Int) := rfl
  have e2 : (u : Int).tmod 10 = ((u % 10 : Nat) : Int) := rfl
  rw [e1, e2]
  simp only [wtext, Lib.itoa]
  rw [if_neg (by omega), if_neg (by omega), if_neg (by omega), ba_append]
  simp only [Int.toNat_natCast]
  have e3 : Lib.decDigits (u % 10) = [UInt8.ofNat (48 + u % 10)] := by rw [Lib.decDigits, dif_pos (by omega)]
  rw [e3]
  conv => lhs; rw [Lib.decDigits]
  rw [dif_neg (by omega)]
theorem wtext_neg {n : Int} (h0 : n < 0) : wtext n = (⟨#[45]⟩ : ByteArray) ++ wtext (-n) := by
  simp only [wtext, Lib.itoa]
  rw [if_pos h0, if_neg (by omega)]
  have e : n.natAbs = (-n).toNat := by omega
  rw [e, show (⟨#[45]⟩ : ByteArray) = ⟨[45].toArray⟩ from rfl, ba_append]
  rfl
theorem wtext_less {n : Int} (h : n ≤ -10) : wtext n = wtext (n.tdiv 10) ++ wtext (-(n.tmod 10)) := by
  obtain ⟨m, rfl⟩ : ∃ m : Int, n = -m := ⟨-n, by omega⟩
  have hm := wtext_more (n := m) (by omega)
  rw [Int.neg_tdiv, Int.neg_tmod, Int.neg_neg]
  have h2 : 0 < m.tdiv 10 := by
    obtain ⟨u, rfl⟩ : ∃ u : Nat, m = u := ⟨m.toNat, by omega⟩
    have e1 : (u : Int).tdiv 10 = ((u / 10 : Nat) : Int) := rfl
    rw [e1]; omega
  rw [wtext_neg (by omega), wtext_neg (n := -(m.tdiv 10)) (by omega), Int.neg_neg, Int.neg_neg, hm, ByteArray.append_assoc]
theorem dig_lit {d : Int} (h0 : 0 ≤ d) (h1 : d < 10) : (⟨#[48, 49, 50, 51, 52, 53, 54, 55, 56, 57]⟩ : ByteArray).extract d.toNat (d + 1).toNat = dig d := by
  have : d = 0 ∨ d = 1 ∨ d = 2 ∨ d = 3 ∨ d = 4 ∨ d = 5 ∨ d = 6 ∨ d = 7 ∨ d = 8 ∨ d = 9 := by omega
  rcases this with rfl | rfl | rfl | rfl | rfl | rfl | rfl | rfl | rfl | rfl <;> decide +kernel

/-- n divided by ten, and what is left. -/
theorem ten_of (n : Int) : n = 10 * n.tdiv 10 + n.tmod 10 ∧ (0 ≤ n → 0 ≤ n.tmod 10 ∧ n.tmod 10 < 10 ∧ 0 ≤ n.tdiv 10) ∧ (n ≤ 0 → -10 < n.tmod 10 ∧ n.tmod 10 ≤ 0 ∧ n.tdiv 10 ≤ 0) := by
  have h := Int.mul_tdiv_add_tmod n 10
  refine ⟨h.symm, fun h1 => ?_, fun h1 => ?_⟩
  · have h2 := Int.tmod_nonneg 10 h1
    have h3 := Int.tmod_lt_of_pos n (show (0 : Int) < 10 by decide)
    omega
  · have h2 := Int.tmod_nonneg 10 (show 0 ≤ -n by omega)
    have h3 := Int.tmod_lt_of_pos (-n) (show (0 : Int) < 10 by decide)
    rw [Int.neg_tmod] at h2 h3
    omega

end Go.Proofs.YthfngplckbggpaaGreatDoor

namespace Go.Proofs.YthfngplckbggpaaGreatDoor
open Go Go.RowKit

def NoPost (w0 : World) (r : Hp) (e : Ending) (w' : World) : Prop := e = .returned (.tuple #[ansVal 0 ByteArray.empty 0 (.slice none 0 0), .bool false]) ∧ Step w0 [] w' r
def spPING : Sp := ⟨⟨#[80, 73, 78, 71]⟩, 3, 1, 2, 0, 0, 0⟩

set_option maxRecDepth 100000 in
set_option maxHeartbeats 2000000 in
theorem do_PING {w0 w : World} {l r : Hp} {sb : Nat} {S : St} {g off : Nat} {c : ByteArray} (h : Ctx w0 w l r sb S g off [c]) (hc : wcheck [c] = (spPING, ByteArray.empty)) (now : Int) :
    Calls Tryz.prog 28 #[ptr sb, .int .i64 now, .slice (some ⟨g, off, none⟩) 1 1] w (NoPost w0 (l ++ r)) := by
  have H := h.alloc ZeroVal
  have hchk := check_some H.st (H.args.more (x := l)) 1
  rw [hc] at hchk
  clear hc
  unfold CheckPost Sp.val specVal spPING at hchk
  simp only [List.length_cons, List.length_nil, Nat.zero_add] at hchk
  replace hchk := hid hchk
  clear h H
  go_enter Tryz.func28, Tryz.ntmps28
  go_wp2_with fail
  refine hchk.out.mono ?_
  rintro e w2 ⟨rfl, S2⟩
  clear hchk
  go_upto_region 2 with fail
  have S3 := S2.alloc (.cells #[.string ⟨#[80, 73, 78, 71]⟩, .int .i64 3, .int .i64 1, .int .i64 2, .int .i64 0, .int .i64 0, .int .i64 0] 48)
  generalize hw3 : w2.alloc _ = w3
  replace S3 : Step w0 [] w3 _ := hw3 ▸ S3
  clear hw3 S2
  generalize w2.heap.size = b1 at S3 ⊢
  generalize w.heap.size = b at S3 ⊢
  have nm := cells_get S3.own.head 0
  simp only [List.getElem?_toArray, List.getElem?_cons_zero] at nm
  replace S3 := hid S3
  go_upto_region 5 with fail
  have S4 := S3.out.alloc (JobObj sb now g off 0 0)
  generalize hw4 : w3.alloc _ = w4
  replace S4 : Step w0 [] w4 _ := hw4 ▸ S4
  clear hw4 S3 nm
  generalize w3.heap.size = b2 at S4 ⊢
  have nm := cells_get S4.own.tail.head 0
  simp only [List.getElem?_toArray, List.getElem?_cons_zero] at nm
  have S5 : Step w0 [] w4 ((b, ZeroVal) :: (l ++ r ++ [(b2, JobObj sb now g off 0 0), (b1, .cells #[.string ⟨#[80, 73, 78, 71]⟩, .int .i64 3, .int .i64 1, .int .i64 2, .int .i64 0, .int .i64 0, .int .i64 0] 48 (0, 0))])) := S4.permR (perm_by fun f => by
    simp only [List.map_append, List.sum_append, List.map_cons, List.sum_cons, List.map_nil, List.sum_nil]; omega)
  obtain ⟨⟨c0, hc0⟩, ⟨c1, hc1⟩, ⟨c2, hc2⟩, ⟨c3, hc3⟩, ⟨c4, hc4⟩, ⟨c5, hc5⟩, fz, hlt⟩ := cells6' S5.own.head
  have S9 := hid ((((((((S5.set 0 (.int .i64 0)).set 1 (.string ByteArray.empty)).set 2 (.int .i64 0)).set 3 (.float .f64 0)).set 4 (.bool false)).set 5 (.slice none 0 0)).less (List.sublist_cons_self _ _)).less (List.sublist_append_left _ _))
  clear S4 S5
  go_wp2_with fail
  refine bodyPost_ret (v := .tuple #[ansVal 0 ByteArray.empty 0 (.slice none 0 0), .bool false]) (by simp [results, Tryz.results28, go_sem, ansVal, *] <;> rfl) rfl ?_
  exact ⟨rfl, S9.out⟩

end Go.Proofs.YthfngplckbggpaaGreatDoor

namespace Go.Proofs.YthfngplckbggpaaGreatDoor
open Go Go.RowKit

theorem InX.get {w0 w : World} {R : Hp} (h : Hid (InX w0 R w)) {p : Nat × Obj} (hp : p ∈ R) : w.heap[p.1]? = some p.2 := by
  obtain ⟨x, hx⟩ := h.out
  exact hx.own.right.at_ p hp

theorem ins_step {w0 w : World} {r : Hp} {mb : Nat} {o : Obj} {m : AL Value} (h : Step w0 [] w ((mb, o) :: r)) (hm : StrMap o m) (hn : (m.map Prod.fst).Nodup) (key : ByteArray) (v : Value) :
    ∃ w' o', (Instr.mapUpdate 118 (.map (some mb)) (.string key) v).run Tryz.prog w = .ok () w' ∧ StrMap o' (mput m key v) ∧ ((mput m key v).map Prod.fst).Nodup ∧ Step w0 [] w' ((mb, o') :: r) := by
  obtain ⟨o', hup, hm'⟩ := run_put (P := Tryz.prog) (t := 118) Tryz.underlying118 Tryz.underlying9 h.own.head hm hn key v
  exact ⟨_, o', hup, hm', mput_keys hn, h.obj rfl⟩

abbrev fv (f : FuncId) : Value := .func (.func f) #[] #[]
def wHSET : ByteArray := ⟨#[72, 83, 69, 84]⟩
def wHINCRBY : ByteArray := ⟨#[72, 73, 78, 67, 82, 66, 89]⟩
def wHMGET : ByteArray := ⟨#[72, 77, 71, 69, 84]⟩
def wHGETALL : ByteArray := ⟨#[72, 71, 69, 84, 65, 76, 76]⟩
def wHDEL : ByteArray := ⟨#[72, 68, 69, 76]⟩
def wHGET : ByteArray := ⟨#[72, 71, 69, 84]⟩
def wHLEN : ByteArray := ⟨#[72, 76, 69, 78]⟩
def wHEXISTS : ByteArray := ⟨#[72, 69, 88, 73, 83, 84, 83]⟩
/-- The commands of hashes, and what does them. -/
def doesMap : AL Value := (mput (mput (mput (mput (mput (mput (mput (mput [] wHSET (fv 103)) wHINCRBY (fv 104)) wHMGET (fv 105)) wHGETALL (fv 106)) wHDEL (fv 107)) wHGET (fv 108)) wHLEN (fv 110)) wHEXISTS (fv 111))
theorem does_HSET : mlook doesMap wHSET = some (fv 103) := by kernel_rfl
theorem does_HINCRBY : mlook doesMap wHINCRBY = some (fv 104) := by kernel_rfl
theorem does_HMGET : mlook doesMap wHMGET = some (fv 105) := by kernel_rfl
theorem does_HGETALL : mlook doesMap wHGETALL = some (fv 106) := by kernel_rfl
theorem does_HDEL : mlook doesMap wHDEL = some (fv 107) := by kernel_rfl
theorem does_HGET : mlook doesMap wHGET = some (fv 108) := by kernel_rfl
theorem does_HLEN : mlook doesMap wHLEN = some (fv 110) := by kernel_rfl
theorem does_HEXISTS : mlook doesMap wHEXISTS = some (fv 111) := by kernel_rfl

set_option maxRecDepth 100000 in
set_option maxHeartbeats 1000000 in
theorem does_any {w0 w : World} {r : Hp} (hS : Step w0 [] w r) :
    Calls Tryz.prog 54 #[] w (fun e w' => ∃ mb o, e = .returned (.map (some mb)) ∧ StrMap o doesMap ∧ Step w0 [] w' ((mb, o) :: r)) := by
  have hmm := @run_makeMap Tryz.prog
  have S0 := hS.alloc (.map #[] 0)
  clear hS
  obtain ⟨w1, o1, u1, m1, n1, S1⟩ := ins_step S0 StrMap.empty (by simp) ⟨#[72, 83, 69, 84]⟩ (fv 103)
  obtain ⟨w2, o2, u2, m2, n2, S2⟩ := ins_step S1 m1 n1 ⟨#[72, 73, 78, 67, 82, 66, 89]⟩ (fv 104)
  obtain ⟨w3, o3, u3, m3, n3, S3⟩ := ins_step S2 m2 n2 ⟨#[72, 77, 71, 69, 84]⟩ (fv 105)
  obtain ⟨w4, o4, u4, m4, n4, S4⟩ := ins_step S3 m3 n3 ⟨#[72, 71, 69, 84, 65, 76, 76]⟩ (fv 106)
  obtain ⟨w5, o5, u5, m5, n5, S5⟩ := ins_step S4 m4 n4 ⟨#[72, 68, 69, 76]⟩ (fv 107)
  obtain ⟨w6, o6, u6, m6, n6, S6⟩ := ins_step S5 m5 n5 ⟨#[72, 71, 69, 84]⟩ (fv 108)
  obtain ⟨w7, o7, u7, m7, n7, S7⟩ := ins_step S6 m6 n6 ⟨#[72, 76, 69, 78]⟩ (fv 110)
  obtain ⟨w8, o8, u8, m8, n8, S8⟩ := ins_step S7 m7 n7 ⟨#[72, 69, 88, 73, 83, 84, 83]⟩ (fv 111)
  have hend : Hid (StrMap o8 doesMap) := hid m8
  replace S8 := hid S8
  clear m1 m2 m3 m4 m5 m6 m7 m8 n1 n2 n3 n4 n5 n6 n7 n8 S0 S1 S2 S3 S4 S5 S6 S7
  unfold fv at u1 u2 u3 u4 u5 u6 u7 u8
  go_enter Tryz.func54, Tryz.ntmps54
  go_wp2_with fail
  go_ret
  exact ⟨_, o8, rfl, hend.out, S8.out⟩

/-- What a command's work answers, perhaps with a list, and what it leaves. -/
def FEnd (w0 : World) (R : Hp) (sb : Nat) (S : St) (kind : Int) (text : ByteArray) (n : Int) (xs : List Lf) (e : Ending) (w' : World) : Prop :=
  ∃ a c vl l', e = .returned (ansVal kind text n (.slice a xs.length c)) ∧ IsLfs (.slice a xs.length c) xs vl ∧ IsStore l' sb S ∧ Step w0 [] w' (l' ++ (vl ++ R))
def FDoEnd (w0 : World) (R : Hp) (sb : Nat) (S : St) (kind : Int) (text : ByteArray) (n : Int) (xs : List Lf) (e : Ending) (w' : World) : Prop :=
  ∃ a c vl l', e = .returned (.tuple #[ansVal kind text n (.slice a xs.length c), .bool true]) ∧ IsLfs (.slice a xs.length c) xs vl ∧ IsStore l' sb S ∧ Step w0 [] w' (l' ++ (vl ++ R))
theorem FEnd.leaf {w0 : World} {R : Hp} {sb : Nat} {S : St} {a : Lf} {e : Ending} {w' : World} (h : StPost w0 R sb S (lfVal a) e w') : FEnd w0 R sb S a.kind a.text a.n [] e w' := by
  obtain ⟨rfl, l', h1, h2⟩ := h
  exact ⟨none, 0, [], l', rfl, .nil, h1, h2⟩

end Go.Proofs.YthfngplckbggpaaGreatDoor
