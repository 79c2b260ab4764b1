/-
  A region that draws its order: its head only reads what is owned and calls what leaves all that is owned as it was; then comes a tail in one forced order (a store, say). The head is walked once, in the order of the text; the tail from any world that is left.
  Beside Derived.StillTail (one world for the head) and Derived.Deep.Quiet (a class of worlds, no tail): the class of worlds, with a tail.
  expiry: which one of two entries is ahead.
  expiry: a row of entries in memory: Len, Less, Swap.
  expiry's heap through container/heap: up, down, Push, Remove, Fix: the entries stay the same, each knows its place.
-/
import Derived.Test.YthfngplckbggpaaGreatDoorP05
import Derived.StillTail
import Derived.Test.YthfngplckbggpaaGreatDoorProg
import Derived.Test.YthfngplckbggpaaGreatDoorP04
import Derived.StillTailTactics
import Derived.Deep.RegionWith
import Derived.WalkLawsBesides
import Derived.Handy
set_option linter.unusedVariables false
set_option linter.unusedSimpArgs false
namespace Go.Proofs.YthfngplckbggpaaGreatDoor
open Go Go.RowKit

section
variable {P : Program} {ops : Array Oper} {md : Region.Mode} {C : World → Prop}

/-- In whichever order the head's operations come up: each is quiet; behind f of them: L. -/
def headQ (P : Program) (md : Region.Mode) (ops : Array Oper) (C : World → Prop) (n : Nat) (L : Array Bool → Act → Prop) : Nat → Array Bool → Act → Prop
  | 0, done, a => L done a
  | f + 1, done, a => Region.ready md ops done ≠ [] ∧ ∀ i ∈ Region.ready md ops done, i < n ∧ qOp P ops C i (headQ P md ops C n L f (done.setIfInBounds i true)) a

theorem headQ_run {n g : Nat} {L : Array Bool → Act → Prop} {Q : Exit → Act → World → Prop} (hL : ∀ done a, L done a → ∀ w, C w → wpAny P md ops Q g done a w) :
    ∀ (f : Nat) (done : Array Bool) (a : Act) (w : World), C w → headQ P md ops C n L f done a → wpAny P md ops Q (f + g) done a w := by
  intro f
  induction f with
  | zero => intro done a w hw h; rw [Nat.zero_add]; exact hL done a h w hw
  | succ f ih =>
    intro done a w hw h
    rw [show f + 1 + g = (f + g) + 1 by omega]
    exact ⟨fun h0 => absurd h0 h.1, fun i hi => wpOp_of_qOp hw (fun a' w' hw' h' => ih _ a' w' hw' h') (h.2 i hi).2⟩

/-- One that may come up now, and is apart from all that don't wait for it, may be taken first. -/
theorem headQ_first {n i : Nat} {o : Oper} {v : Value} {L : Array Bool → Act → Prop} (ho : ops[i]? = some o) (hsel : ∀ (j : Nat) (o : Oper) cs b, ops[j]? = some o → o.op ≠ .select cs b)
    (hs : Region.sinkB md ops n = true) (hc : Region.chainB md ops n = true) (hn : n < ops.size) (hin : i < n) (hL : ∀ done a, L done a → ∀ j ∈ Region.ready md ops done, n ≤ j)
    (f : Nat) : ∀ (done : Array Bool) (a : Act), HeadInv md ops n done →
      (∀ j oj, ops[j]? = some oj → j ≠ i → done.getD j true = false → (∀ e ∈ oj.after, Region.binds md e = true → e.on ≠ i) → o.apart ops oj = true) →
      i ∈ Region.ready md ops done → YieldsIn P ops C o v a → headQ P md ops C n L f (done.setIfInBounds i true) (a.put o.dst v) → headQ P md ops C n L (f + 1) done a := by
  induction f with
  | zero =>
    intro done a inv _ hr hy H
    have hun := (mem_ready.1 hr).1
    refine ⟨List.ne_nil_of_mem hr, fun j hj => ?_⟩
    have hjn : j < n := Nat.lt_of_not_le fun h => tail_waits hs hc hn inv _ i rfl hin hun j h hj
    by_cases e : j = i
    · subst e; exact ⟨hjn, hy.qOp ho H⟩
    · exact absurd (hL _ _ H j (ready_mono hj e)) (by omega)
  | succ f ih =>
    intro done a inv hfree hr hy H
    have hun := (mem_ready.1 hr).1
    refine ⟨List.ne_nil_of_mem hr, fun j hj => ?_⟩
    have hjn : j < n := Nat.lt_of_not_le fun h => tail_waits hs hc hn inv _ i rfl hin hun j h hj
    refine ⟨hjn, ?_⟩
    by_cases e : j = i
    · subst e; exact hy.qOp ho H
    · obtain ⟨hjun, oj, hoj, hall⟩ := mem_ready.1 hj
      have hnot : ∀ e ∈ oj.after, Region.binds md e = true → e.on ≠ i := fun e he hb heq => by
        have := hall e he hb
        rw [heq, getD_both hun] at this
        cases this
      have h2 := qOp_put hoj (hfree j oj hoj e hjun hnot) (fun cs b => hsel i o cs b ho) (fun cs b => hsel j oj cs b hoj) hy (H.2 j (ready_mono hj e)).2
      refine qOp_mono (fun a' h3 => ih (done.setIfInBounds j true) a' (inv.set hj hjn) (fun k ok hk hki hkun hno => hfree k ok hk hki ?_ hno) (ready_mono hr (Ne.symm e)) h3.1 ?_) h2
      · by_cases hjk : j = k
        · subst hjk; exact hjun
        · rwa [getD_set_ne true hjk] at hkun
      · rw [Array.setIfInBounds_comm _ _ e]
        exact h3.2

theorem headQ_lex {n g : Nat} {T : Act → Prop} (hsel : Region.noSelect ops = true) (hs : Region.sinkB md ops n = true) (hc : Region.chainB md ops n = true) (hn : n < ops.size)
    (l : List Oper) : ∀ (k : Nat) (done : Array Bool) (a : Act), (∀ j, j < l.length → l[j]? = ops[k + j]?) → k + l.length = n → HeadInv md ops n done →
    Region.lexHead md ops g l.length k done = true → wpQuiet P ops C T l a → headQ P md ops C n (fun done' a' => Region.seqB md ops g n done' = true ∧ T a') l.length done a := by
  induction l with
  | nil =>
    intro k done a _ hk _ hB h
    have : k = n := by simpa using hk
    subst this
    exact ⟨by simpa [Region.lexHead] using hB, h⟩
  | cons o l ih =>
    intro k done a hl hk inv hB h
    have h0 : ops[k]? = some o := by simpa using (hl 0 (by simp)).symm
    simp only [List.length_cons, Region.lexHead, Bool.and_eq_true] at hB
    simp only [List.length_cons] at hk
    have hr : k ∈ Region.ready md ops done := by simpa using hB.1.1
    obtain ⟨v, hy, hK⟩ := yieldsIn_of_qOp (C := C) (K := wpQuiet P ops C T l) h0 (by unfold qOp; simp only [h0]; exact h)
    exact headQ_first h0 (Region.noSelect_spec hsel) hs hc hn (by omega) (fun done' a' hL => seqB_ready hL.1) l.length done a inv (Region.free_spec h0 hB.1.2) hr hy
      (ih (k + 1) _ _ (fun j hj => by have := hl (j + 1) (by simpa using hj); simpa [Nat.add_assoc, Nat.add_comm 1 j] using this) (by omega) (inv.set hr (by omega)) hB.2 hK)

end

theorem wp_region_tail {P : Program} {id : Nat} {Q : Exit → Act → World → Prop} {a : Act} {w w0 : World} {l L : Hp} {ops : List Oper} (n : Nat) (hS : Step w0 l w L) (hm : P.follows .mixedOrders = true) (hB : Region.lexTailB .any ops.toArray n = true)
    (h : Nonempty (InW w0 l L) → wpQuiet P ops.toArray (fun w' => ∃ p : InW w0 l L, w' = p.w) (fun a' => ∀ w', (∃ p : InW w0 l L, w' = p.w) → wpList P ops.toArray Q (ops.drop n) a' w') (ops.take n) a) : (Code.region id ops.toArray true).wp P Q a w := by
  simp only [Region.lexTailB, Bool.and_eq_true, decide_eq_true_eq] at hB
  obtain ⟨⟨⟨⟨hsel, hn⟩, hs⟩, hc⟩, hlex⟩ := hB
  have hn' : n < ops.length := by simpa using hn
  have htl : (ops.take n).length = n := by simp; omega
  have hdl : (ops.drop n).length = ops.toArray.size - n := by simp
  have inv0 : HeadInv .any ops.toArray n (Array.replicate ops.toArray.size false) :=
    ⟨by simp, fun j oj _ hl => (by rw [getD_replicate_false] at hl; cases hl), fun t _ ht => getD_in (by simpa using ht) (getD_replicate_false _ _)⟩
  have H := headQ_lex (md := .any) (g := ops.toArray.size - n) hsel hs hc hn (ops.take n) 0 _ a (fun j hj => by
    rw [htl] at hj; simp [hj]) (by omega) inv0 (by rw [htl]; exact hlex) (h ⟨⟨w, hS⟩⟩)
  refine wp_region_any hm ?_
  have R := headQ_run (Q := Q) (g := ops.toArray.size - n) (fun done a' hL w' hw' => by
    have := wpAny_of_seq (md := .any) (Q' := Q) (ops.drop n) n done a' w' (fun j => by simp [List.getElem?_drop]) (by rw [hdl]; exact hL.1) (hL.2 w' hw')
    rwa [hdl] at this) _ _ _ w.drew ⟨⟨w.drew, hS.drew⟩, rfl⟩ H
  rw [htl, show n + (ops.toArray.size - n) = ops.toArray.size by omega] at R
  exact R

/-- Behind the head. -/
theorem tail_nil {P : Program} {ops os : Array Oper} {C : World → Prop} {Q : Exit → Act → World → Prop} {a : Act} {w0 : World} {l L : Hp} {rest : List Oper} (h : ∀ w', Step w0 l w' L → wpList P os Q rest a w') :
    wpQuiet P ops C (fun a' => ∀ w', (∃ p : InW w0 l L, w' = p.w) → wpList P os Q rest a' w') [] a := wpQuiet_nil (fun _ ⟨p, hp⟩ => by rw [hp]; exact h p.w p.h)

end Go.Proofs.YthfngplckbggpaaGreatDoor

namespace Go.Proofs.YthfngplckbggpaaGreatDoor
open Go Go.RowKit

def cmpInt (a b : Int) : Int := if a < b then -1 else if b < a then 1 else 0
def cmpStr (a b : ByteArray) : Int := if Op.bytesLess a.toList b.toList = true then -1 else if a = b then 0 else 1

set_option maxHeartbeats 1000000 in
theorem cmpInt_any (a b : Int) (w : World) : Calls Tryz.prog 332 #[.int .i64 a, .int .i64 b] w fun e w' => e = .returned (.int .i64 (cmpInt a b)) ∧ w = w' := by
  unfold cmpInt
  by_cases h1 : a < b
  · rw [if_pos h1]
    go_enter Tryz.func332, Tryz.ntmps332
    go_wp2
    go_ret
    exact ⟨rfl, rfl⟩
  · rw [if_neg h1]
    by_cases h2 : b < a
    · rw [if_pos h2]
      go_enter Tryz.func332, Tryz.ntmps332
      go_wp2
      go_ret
      exact ⟨rfl, rfl⟩
    · rw [if_neg h2]
      go_enter Tryz.func332, Tryz.ntmps332
      go_wp2
      go_ret
      exact ⟨rfl, rfl⟩

set_option maxHeartbeats 1000000 in
theorem cmpStr_any (a b : ByteArray) (w : World) : Calls Tryz.prog 333 #[.string a, .string b] w fun e w' => e = .returned (.int .i64 (cmpStr a b)) ∧ w = w' := by
  unfold cmpStr
  cases h1 : Op.bytesLess a.toList b.toList with
  | true =>
    rw [if_pos rfl]
    go_enter Tryz.func333, Tryz.ntmps333
    go_wp2
    go_ret
    exact ⟨rfl, rfl⟩
  | false =>
    rw [if_neg (by decide)]
    by_cases h2 : a = b
    · have h2' := str_is h2
      rw [if_pos h2]
      clear h2
      go_enter Tryz.func333, Tryz.ntmps333
      go_wp2
      go_ret
      exact ⟨rfl, rfl⟩
    · have h2' := str_isnt h2
      rw [if_neg h2]
      clear h2
      go_enter Tryz.func333, Tryz.ntmps333
      go_wp2
      go_ret
      exact ⟨rfl, rfl⟩

def cmpOr (x y : Int) : Int := if x = 0 then y else x
set_option maxHeartbeats 1000000 in
theorem cmpOr_any (b : Nat) (x y : Int) (w : World) (h0 : w.cell? ⟨b, 0, none⟩ = some (.int .i64 x)) (h1 : w.cell? ⟨b, 1, none⟩ = some (.int .i64 y)) :
    Calls Tryz.prog 331 #[.slice (some ⟨b, 0, none⟩) 2 2] w fun e w' => e = .returned (.int .i64 (cmpOr x y)) ∧ w = w' := by
  unfold cmpOr
  by_cases hx : x = 0
  · subst hx
    rw [if_pos rfl]
    by_cases hy : y = 0
    · subst hy
      go_enter Tryz.func331, Tryz.ntmps331
      go_wp2
      refine wp_loop_rounds 3 ?_
      rw [rounds_succ]
      go_wp2
      rw [rounds_succ]
      go_wp2
      rw [rounds_succ]
      go_wp2
      go_ret
      exact ⟨rfl, rfl⟩
    · have hy' : (y != 0) = true := by simpa using hy
      go_enter Tryz.func331, Tryz.ntmps331
      go_wp2
      refine wp_loop_rounds 2 ?_
      rw [rounds_succ]
      go_wp2
      rw [rounds_succ]
      go_wp2
      go_ret
      exact ⟨rfl, rfl⟩
  · have hx' : (x != 0) = true := by simpa using hx
    rw [if_neg hx]
    go_enter Tryz.func331, Tryz.ntmps331
    go_wp2
    refine wp_loop_rounds 1 ?_
    rw [rounds_succ]
    go_wp2
    go_ret
    exact ⟨rfl, rfl⟩

def dueOrder (t : Int) (k : ByteArray) (t' : Int) (k' : ByteArray) : Int := cmpOr (cmpInt t t') (cmpStr k k')

set_option maxRecDepth 100000 in
set_option maxHeartbeats 2000000 in
theorem order_any (t t' : Int) (k k' : ByteArray) (w : World) :
    Calls Tryz.prog 330 #[.agg #[.int .i64 t, .string k], .agg #[.int .i64 t', .string k']] w fun e w' => e = .returned (.int .i64 (dueOrder t k t' k')) ∧ Step w [] w' [] := by
  have hci := hid (cmpInt_any t t')
  have hcs := hid (cmpStr_any k k')
  have hco := hid (cmpOr_any)
  unfold dueOrder
  go_enter Tryz.func330, Tryz.ntmps330
  go_wp2_with fail
  generalize hx : cmpInt t t' = x at *
  generalize hy : cmpStr k k' = y at *
  replace hx := hid hx
  replace hy := hid hy
  have S1 := ((Step.refl (Own.nil w)).alloc (.cells #[.int .i64 t, .string k] 237)).alloc (.cells #[.int .i64 t', .string k'] 237)
  have q1 := S1.own.tail.head
  have q2 := S1.own.head
  generalize hw1 : (w.alloc (.cells #[.int .i64 t, .string k] 237)).alloc (.cells #[.int .i64 t', .string k'] 237) = w1 at S1 q1 q2 ⊢
  clear hw1
  rw [World.size_alloc] at q2
  have a0 := cells_get q1 0
  have a1 := cells_get q1 1
  have b0 := cells_get q2 0
  have b1 := cells_get q2 1
  simp only [List.getElem?_toArray, List.getElem?_cons_succ, List.getElem?_cons_zero] at a0 a1 b0 b1
  replace S1 := hid (S1.less (List.nil_sublist _))
  clear q1 q2
  refine wp_region_still_tail 10 (by kernel_rfl) (by kernel_rfl) ?_
  simp only [List.take_succ_cons, List.take_zero, List.drop_succ_cons, List.drop_zero]
  still_step
  still_step
  still_step
  still_step
  still_call (same_flip (hci.out _))
  still_step
  still_step
  still_step
  still_step
  still_call (same_flip (hcs.out _))
  refine wpStill_nil ?_
  go_wp2_with fail
  refine (hco.out _ x y _ (by simp [go_sem]) (by simp [go_sem])).mono ?_
  rintro e w' ⟨rfl, rfl⟩
  go_wp2_with fail
  go_ret
  exact ⟨by rw [hx.out, hy.out]; rfl, (S1.out.drew.alloc _).less (List.nil_sublist _)⟩
end Go.Proofs.YthfngplckbggpaaGreatDoor

namespace Go.Proofs.YthfngplckbggpaaGreatDoor
open Go Go.RowKit

abbrev ptr' (b : Nat) : Value := .pointer (some ⟨b, 0, none⟩)
structure En where
  b : Nat
  t : Int
  key : ByteArray

abbrev EnObj (e : En) (i : Nat) : Obj := .cells #[.int .i64 e.t, .string e.key, .int .i64 i] 239 (0, 0)
def enPtr (e : En) : Value := ptr' e.b
def entHp (i : Nat) (es : List En) : Hp := match es with
  | [] => []
  | e :: es => (e.b, EnObj e i) :: entHp (i + 1) es
theorem entHp_append (i : Nat) (a b : List En) : entHp i (a ++ b) = entHp i a ++ entHp (i + a.length) b := by
  induction a generalizing i with
  | nil => rfl
  | cons e a ih => simp only [List.cons_append, entHp, ih, List.length_cons, Nat.add_assoc, Nat.add_comm 1 a.length]
theorem keys_ent (i : Nat) (es : List En) : keys (entHp i es) = es.map En.b := by
  induction es generalizing i with
  | nil => rfl
  | cons e es ih => simp [entHp, ih]
def enLess (a b : En) : Bool := decide (dueOrder a.t a.key b.t b.key < 0)

abbrev ExpObj (rv : Value) (mb : Nat) : Obj := .cells #[rv, .map (some mb)] 108 (0, 0)
/-- The heap's part: the struct, the row's block, the entries. -/
def HeapHp (xb mb : Nat) (rv : Value) (sl : Hp) (es : List En) : Hp := (xb, ExpObj rv mb) :: (sl ++ entHp 0 es)
structure HeapAt (rv : Value) (sl : Hp) (es : List En) : Prop where
  sl : SliceHp 1 232 rv es.length (es.map enPtr) sl

theorem ent_at {w : World} {es : List En} {i : Nat} {r1 r2 : Hp} (h : Own w (r1 ++ (entHp 0 es ++ r2))) (hi : i < es.length) : w.heap[(es[i]).b]? = some (EnObj es[i] i) := by
  have e : es = es.take i ++ es[i] :: es.drop (i + 1) := by
    rw [← List.drop_eq_getElem_cons hi, List.take_append_drop]
  have e2 : entHp 0 es = entHp 0 (es.take i) ++ ((es[i]).b, EnObj es[i] i) :: entHp (i + 1) (es.drop (i + 1)) := by
    conv => lhs; rw [e]
    rw [entHp_append]
    have : (es.take i).length = i := by simp; omega
    rw [this]
    simp [entHp]
  refine h.at_ ((es[i]).b, _) ?_
  rw [e2]
  simp

set_option maxRecDepth 100000 in
set_option maxHeartbeats 1000000 in
theorem less_any (g n cap i j : Nat) (x y : En) (w : World) (hi : i < n) (hj : j < n) (hc : n ≤ cap) (hcap : cap ≤ maxLen) (ci : w.cell? ⟨g, i, none⟩ = some (ptr' x.b)) (cj : w.cell? ⟨g, j, none⟩ = some (ptr' y.b))
    (x0 : w.cell? ⟨x.b, 0, none⟩ = some (.int .i64 x.t)) (x1 : w.cell? ⟨x.b, 1, none⟩ = some (.string x.key)) (y0 : w.cell? ⟨y.b, 0, none⟩ = some (.int .i64 y.t)) (y1 : w.cell? ⟨y.b, 1, none⟩ = some (.string y.key)) :
    Calls Tryz.prog 328 #[.slice (some ⟨g, 0, none⟩) n cap, .int .i64 i, .int .i64 j] w fun e w' => e = .returned (.bool (enLess x y)) ∧ Step w [] w' [] := by
  have hb : n ≤ 9223372036854775807 := by unfold maxLen at hcap; omega
  clear hcap
  have hord := hid (order_any x.t y.t x.key y.key)
  have hst := hid (Step.refl (Own.nil w))
  unfold enLess
  go_enter Tryz.func328, Tryz.ntmps328
  go_wp2_with fail
  go_still_tail 14, (by kernel_rfl)
  go_wp2_with fail
  refine (hord.out _).mono ?_
  rintro e w' ⟨rfl, S1⟩
  replace S1 := hid (hst.out.drew.trans S1)
  go_wp2_with fail
  go_ret
  exact ⟨rfl, S1.out⟩

set_option maxRecDepth 100000 in
set_option maxHeartbeats 1000000 in
theorem swap_any (g n cap i j : Nat) (x y : Nat) (vx vy : Value) (w : World) (hi : i < n) (hj : j < n) (hij : i < j) (hc : n ≤ cap) (hcap : cap ≤ maxLen) (ci : w.cell? ⟨g, i, none⟩ = some (ptr' x)) (cj : w.cell? ⟨g, j, none⟩ = some (ptr' y))
    (x2 : w.cell? ⟨x, 2, none⟩ = some vx) (y2 : w.cell? ⟨y, 2, none⟩ = some vy) (fi : ∀ a, w.frozen? ⟨g, a, none⟩ = false) (fx : w.frozen? ⟨x, 2, none⟩ = false) (fy : w.frozen? ⟨y, 2, none⟩ = false)
    (hgx : g ≠ x) (hgy : g ≠ y) (hxy : x ≠ y) :
    Calls Tryz.prog 329 #[.slice (some ⟨g, 0, none⟩) n cap, .int .i64 i, .int .i64 j] w fun e w' => e = .returned (.tuple #[]) ∧
      w' = ((((w.setCell ⟨g, i, none⟩ (ptr' y)).setCell ⟨g, j, none⟩ (ptr' x)).setCell ⟨y, 2, none⟩ (.int .i64 i)).setCell ⟨x, 2, none⟩ (.int .i64 j)).drew.drew := by
  have hb : n ≤ 9223372036854775807 := by unfold maxLen at hcap; omega
  clear hcap
  go_enter Tryz.func329, Tryz.ntmps329
  go_wp2_with fail
  go_region
  all_goals go_wp2_with fail
  all_goals go_region
  all_goals go_wp2_with fail
  all_goals go_end0
  all_goals exact ⟨rfl, rfl⟩
end Go.Proofs.YthfngplckbggpaaGreatDoor

namespace Go.Proofs.YthfngplckbggpaaGreatDoor
open Go Go.RowKit

theorem set_mid {α : Type} (A C : List α) (x v : α) : (A ++ x :: C).set A.length v = A ++ v :: C := by
  induction A with
  | nil => rfl
  | cons a A ih => simp [ih]

/-- Two entries that stand apart, told by what is ahead, between and behind. -/
theorem two_split {α : Type} {es : List α} {i j : Nat} (hij : i < j) (hj : j < es.length) : ∃ A x B y C, es = A ++ x :: (B ++ y :: C) ∧ A.length = i ∧ B.length + i + 1 = j := by
  have hi : i < es.length := by omega
  refine ⟨es.take i, es[i], (es.drop (i + 1)).take (j - i - 1), es[j], es.drop (j + 1), ?_, by simp; omega, by simp; omega⟩
  have e1 : es = es.take i ++ es[i] :: es.drop (i + 1) := by
    rw [← List.drop_eq_getElem_cons hi, List.take_append_drop]
  have e2 : es.drop (i + 1) = (es.drop (i + 1)).take (j - i - 1) ++ es[j] :: es.drop (j + 1) := by
    have hk : j - i - 1 < (es.drop (i + 1)).length := by simp; omega
    have e3 : (es.drop (i + 1))[j - i - 1] = es[j] := by simp only [List.getElem_drop]; congr 1; omega
    have e4 : (es.drop (i + 1)).drop (j - i - 1 + 1) = es.drop (j + 1) := by rw [List.drop_drop]; congr 1; omega
    rw [← e3, ← e4, ← List.drop_eq_getElem_cons hk, List.take_append_drop]
  rw [← e2]
  exact e1

def swapE (es : List En) (i j : Nat) : List En := match es[i]?, es[j]? with
  | some x, some y => (es.set i y).set j x
  | _, _ => es
theorem swapE_split (A B C : List En) (x y : En) : swapE (A ++ x :: (B ++ y :: C)) A.length (B.length + A.length + 1) = A ++ y :: (B ++ x :: C) := by
  have h1 : (A ++ x :: (B ++ y :: C))[A.length]? = some x := by simp
  have h2 : (A ++ x :: (B ++ y :: C))[B.length + A.length + 1]? = some y := by
    rw [List.getElem?_append_right (by omega), show B.length + A.length + 1 - A.length = B.length + 1 by omega, List.getElem?_cons_succ]
    simp
  simp only [swapE, h1, h2]
  rw [set_mid]
  have : A ++ y :: (B ++ y :: C) = (A ++ y :: B) ++ y :: C := by simp
  rw [this, show B.length + A.length + 1 = (A ++ y :: B).length by simp; omega, set_mid]
  simp
theorem swapE_len (es : List En) (i j : Nat) : (swapE es i j).length = es.length := by
  unfold swapE; split <;> simp
theorem swapE_perm {es : List En} {i j : Nat} (hij : i < j) (hj : j < es.length) : (swapE es i j).Perm es := by
  obtain ⟨A, x, B, y, C, rfl, rfl, rfl⟩ := two_split hij hj
  rw [swapE_split]
  refine List.Perm.append_left _ ?_
  refine (List.Perm.cons _ List.perm_middle).trans ?_
  refine (List.Perm.swap _ _ _).trans ?_
  exact List.Perm.cons _ List.perm_middle.symm

theorem swapE_drop {es : List En} {i j m : Nat} (hij : i < j) (hj : j < m) : (swapE es i j).drop m = es.drop m := by
  unfold swapE
  split
  · apply List.ext_getElem?
    intro a
    simp only [List.getElem?_drop, List.getElem?_set]
    rw [if_neg (by omega), if_neg (by omega)]
  · rfl

theorem ent_split (A B C : List En) (x y : En) : entHp 0 (A ++ x :: (B ++ y :: C)) = entHp 0 A ++ (x.b, EnObj x A.length) :: (entHp (A.length + 1) B ++ (y.b, EnObj y (B.length + A.length + 1)) :: entHp (B.length + A.length + 2) C) := by
  rw [entHp_append, Nat.zero_add, entHp, entHp_append, entHp, show A.length + 1 + B.length = B.length + A.length + 1 by omega]

theorem heap_swap {w0 w : World} {l r sl : Hp} {xb mb g n cap i j : Nat} {es : List En} (hS : Step w0 l w (HeapHp xb mb (.slice (some ⟨g, 0, none⟩) n cap) sl es ++ r)) (hat : HeapAt (.slice (some ⟨g, 0, none⟩) n cap) sl es) (hij : i < j) (hj : j < es.length) :
    Calls Tryz.prog 329 #[.slice (some ⟨g, 0, none⟩) n cap, .int .i64 i, .int .i64 j] w fun e w' => e = .returned (.tuple #[]) ∧
      ∃ sl', HeapAt (.slice (some ⟨g, 0, none⟩) n cap) sl' (swapE es i j) ∧ Step w0 l w' (HeapHp xb mb (.slice (some ⟨g, 0, none⟩) n cap) sl' (swapE es i j) ++ r) := by
  obtain ⟨hsl⟩ := hat
  generalize hxs : es.map enPtr = xs at hsl
  generalize hn : es.length = n' at hsl
  cases hsl with
  | laid g n cap xs rest hx hr hnc hc =>
  obtain ⟨A, x, B, y, C, rfl, rfl, rfl⟩ := two_split hij hj
  subst hxs
  have hSx : Step w0 l w ((xb, ExpObj (.slice (some ⟨g, 0, none⟩) n cap) mb) :: (g, .cells (((A ++ x :: (B ++ y :: C)).map enPtr) ++ rest).toArray 232 (0, 0)) ::
      (entHp 0 A ++ (x.b, EnObj x A.length) :: (entHp (A.length + 1) B ++ (y.b, EnObj y (B.length + A.length + 1)) :: (entHp (B.length + A.length + 2) C ++ r)))) := by
    have := hS
    rw [HeapHp, ent_split] at this
    simpa using this
  have hown := hSx.own
  have hg := hown.tail.head
  have hxo : w.heap[x.b]? = some (EnObj x A.length) := hown.at_ (x.b, EnObj x A.length) (by simp)
  have hyo : w.heap[y.b]? = some (EnObj y (B.length + A.length + 1)) := hown.at_ (y.b, EnObj y (B.length + A.length + 1)) (by simp)
  have hnd := hown.nd
  simp only [keys_cons, keys_append, keys_ent, List.nodup_cons, List.mem_cons, List.mem_append, not_or] at hnd
  have hgx : g ≠ x.b := hnd.2.1.2.1
  have hgy : g ≠ y.b := hnd.2.1.2.2.2.1
  have hxy : x.b ≠ y.b := by
    have := hnd.2.2
    rw [List.nodup_append] at this
    have := this.2.1
    rw [List.nodup_cons] at this
    intro e
    exact this.1 (by rw [e]; simp)
  have ci := cells_get hg A.length
  have cj := cells_get hg (B.length + A.length + 1)
  have hi1 : ((((A ++ x :: (B ++ y :: C)).map enPtr) ++ rest).toArray)[A.length]? = some (ptr' x.b) := by
    simp [enPtr]
  have hj1 : ((((A ++ x :: (B ++ y :: C)).map enPtr) ++ rest).toArray)[B.length + A.length + 1]? = some (ptr' y.b) := by
    simp only [List.getElem?_toArray, List.map_append, List.map_cons, List.append_assoc, List.cons_append]
    rw [List.getElem?_append_right (by simp; omega)]
    rw [show B.length + A.length + 1 - (A.map enPtr).length = (B.map enPtr).length + 1 by simp; omega, List.getElem?_cons_succ]
    simp [enPtr]
  rw [hi1] at ci
  rw [hj1] at cj
  have hlen : (A ++ x :: (B ++ y :: C)).length = A.length + 1 + B.length + 1 + C.length := by simp; omega
  have hnn : n = A.length + 1 + B.length + 1 + C.length := by rw [← hlen, hn]
  refine (swap_any g n cap A.length (B.length + A.length + 1) x.b y.b _ _ w (by omega) (by omega) (by omega) hnc hc ci cj (cells_get hxo 2) (cells_get hyo 2) (fun a => cells_free hg a) (cells_free hxo 2) (cells_free hyo 2) hgx hgy hxy).mono ?_
  rintro e w' ⟨he, rfl⟩
  rw [swapE_split]
  refine ⟨he, [(g, .cells (((A ++ y :: (B ++ x :: C)).map enPtr) ++ rest).toArray 232 (0, 0))], ⟨?_⟩, ?_⟩
  · have e1 : (A ++ y :: (B ++ x :: C)).length = n := by rw [hnn]; simp; omega
    rw [e1]
    exact .laid g n cap _ rest (by rw [List.length_map, e1]; omega) hr hnc hc
  · have h1 := ((hSx.set2 A.length (ptr' y.b)).set2 (B.length + A.length + 1) (ptr' x.b))
    have ecs : ((((A ++ x :: (B ++ y :: C)).map enPtr) ++ rest).toArray.setIfInBounds A.length (ptr' y.b)).setIfInBounds (B.length + A.length + 1) (ptr' x.b) = (((A ++ y :: (B ++ x :: C)).map enPtr) ++ rest).toArray := by
      simp only [List.setIfInBounds_toArray, List.map_append, List.map_cons, List.append_assoc, List.cons_append]
      congr 1
      have e1 := set_mid (A.map enPtr) (B.map enPtr ++ enPtr y :: (C.map enPtr ++ rest)) (enPtr x) (ptr' y.b)
      rw [List.length_map] at e1
      rw [e1]
      have e2 : A.map enPtr ++ ptr' y.b :: (B.map enPtr ++ enPtr y :: (C.map enPtr ++ rest)) = (A.map enPtr ++ ptr' y.b :: B.map enPtr) ++ enPtr y :: (C.map enPtr ++ rest) := by simp
      rw [e2, show B.length + A.length + 1 = (A.map enPtr ++ ptr' y.b :: B.map enPtr).length by simp; omega, set_mid]
      simp [enPtr]
    rw [ecs] at h1
    have h2 : Step w0 l _ (((xb, ExpObj (.slice (some ⟨g, 0, none⟩) n cap) mb) :: (g, .cells (((A ++ y :: (B ++ x :: C)).map enPtr) ++ rest).toArray 232 (0, 0)) ::
      (entHp 0 A ++ (x.b, EnObj x A.length) :: entHp (A.length + 1) B)) ++ (y.b, EnObj y (B.length + A.length + 1)) :: (entHp (B.length + A.length + 2) C ++ r)) := h1.permR (List.Perm.of_eq (by simp))
    have h3 := h2.setIn 2 (.int .i64 (A.length : Nat))
    have h4 : Step w0 l _ (((xb, ExpObj (.slice (some ⟨g, 0, none⟩) n cap) mb) :: (g, .cells (((A ++ y :: (B ++ x :: C)).map enPtr) ++ rest).toArray 232 (0, 0)) :: entHp 0 A) ++ (x.b, EnObj x A.length) :: (entHp (A.length + 1) B ++
      (y.b, EnObj y A.length) :: (entHp (B.length + A.length + 2) C ++ r))) := h3.permR (List.Perm.of_eq (by simp))
    have h5 := h4.setIn 2 (.int .i64 ((B.length + A.length + 1 : Nat) : Int))
    refine ((h5.drew.drew).permR ?_)
    rw [HeapHp, ent_split]
    simp only [List.cons_append, List.nil_append, List.append_assoc, List.singleton_append]
    refine List.Perm.cons _ (List.Perm.cons _ (List.Perm.append_left _ ?_))
    simp only [List.setIfInBounds_toArray, List.set_cons_succ, List.set_cons_zero]
    refine (List.Perm.cons _ List.perm_middle).trans ?_
    refine (List.Perm.swap _ _ _).trans ?_
    exact List.Perm.cons _ List.perm_middle.symm

end Go.Proofs.YthfngplckbggpaaGreatDoor
