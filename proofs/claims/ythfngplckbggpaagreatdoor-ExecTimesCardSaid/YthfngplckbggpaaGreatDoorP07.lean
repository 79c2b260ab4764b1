/-
  container/heap's up and down over expiry's row: the entries are the same ones, in some order.
  expiry's row: Push and Pop; container/heap's Push, Remove and Fix over it.
  container/heap's Push, Remove and Fix over expiry's row.
  expiry: New, Get, Drop, Put, by which keys end when.
-/
import Derived.Test.YthfngplckbggpaaGreatDoorP06
import Derived.Test.YthfngplckbggpaaGreatDoorP05
set_option linter.unusedVariables false
set_option linter.unusedSimpArgs false
namespace Go.Proofs.YthfngplckbggpaaGreatDoor
open Go Go.RowKit

theorem heap_less {w0 w : World} {l r sl : Hp} {xb mb g n cap i j : Nat} {es : List En} (hS : Step w0 l w (HeapHp xb mb (.slice (some ⟨g, 0, none⟩) n cap) sl es ++ r)) (hat : HeapAt (.slice (some ⟨g, 0, none⟩) n cap) sl es) (hi : i < es.length) (hj : j < es.length) :
    Calls Tryz.prog 328 #[.slice (some ⟨g, 0, none⟩) n cap, .int .i64 i, .int .i64 j] w fun e w' => e = .returned (.bool (enLess es[i] es[j])) ∧ Step w0 l w' (HeapHp xb mb (.slice (some ⟨g, 0, none⟩) n cap) sl es ++ r) := by
  obtain ⟨hsl⟩ := hat
  generalize hxs : es.map enPtr = xs at hsl
  generalize hn : es.length = n' at hsl
  cases hsl with
  | laid g n cap xs rest hx hr hnc hc =>
  subst hxs
  have hown := hS.own
  have hg : w.heap[g]? = some (.cells ((es.map enPtr) ++ rest).toArray 232 (0, 0)) := hown.at_ (g, _) (by simp [HeapHp])
  have hcell : ∀ a (ha : a < es.length), w.cell? ⟨g, a, none⟩ = some (ptr' (es[a]).b) := by
    intro a ha
    rw [cells_get hg]
    simp only [List.getElem?_toArray]
    rw [List.getElem?_append_left (by simpa using ha)]
    simp [enPtr, List.getElem?_eq_getElem ha]
  have hen : ∀ a (ha : a < es.length), w.heap[(es[a]).b]? = some (EnObj es[a] a) := fun a ha => ent_at (r1 := [(xb, _), (g, _)]) (r2 := r) (by simpa [HeapHp] using hown) ha
  refine (less_any g n cap i j es[i] es[j] w (by omega) (by omega) hnc hc (hcell i hi) (hcell j hj) (cells_get (hen i hi) 0) (cells_get (hen i hi) 1) (cells_get (hen j hj) 0) (cells_get (hen j hj) 1)).mono ?_
  rintro e w' ⟨he, hs⟩
  exact ⟨he, hS.part (a := []) (a' := []) (List.Perm.refl _) hs⟩

theorem run_wrap {P : Program} {w : World} {t : TypeId} {a : Addr} (x y : String) : (Builtin.ssaWrapNilChk_ #[t] t #[.pointer (some a), strVal x, strVal y]).run P w = .ok (.pointer (some a)) w := rfl
theorem run_method_val {P : Program} {w : World} {fuel : Nat} {t elem : TypeId} {a : Addr} {name : String} {m : Method} {i : TypeInfo} {f : FuncId} {v : Value} (hi : P.info? t = some i) (hm : i.methods.find? (·.name == name) = some m) (hp : m.path = #[])
    (hf : m.func = some (f, false)) (hu : P.underlying t = some (.pointer elem)) (hl : (loadVar elem a).run P w = .ok v w) : (method (fuel + 1) t (.pointer (some a)) name).run P w = .ok (f, v) w := by
  unfold method
  simp [typeInfo, hi, hm, hp, hf, follow, receiverAt, run_underlying hu, Place.get, run_wrap, asAddr, hl]
theorem run_method_ptr {P : Program} {w : World} {fuel : Nat} {t elem : TypeId} {a : Addr} {name : String} {m : Method} {i : TypeInfo} {f : FuncId} (hi : P.info? t = some i) (hm : i.methods.find? (·.name == name) = some m) (hp : m.path = #[])
    (hf : m.func = some (f, true)) (hu : P.underlying t = some (.pointer elem)) : (method (fuel + 1) t (.pointer (some a)) name).run P w = .ok (f, .pointer (some a)) w := by
  unfold method
  simp [typeInfo, hi, hm, hp, hf, follow, receiverAt, run_underlying hu, Place.get]
theorem rowMethod (name : String) (f : FuncId) (b : Bool) (h : ((Tryz.prog.info? 235).bind fun i => (i.methods.find? (·.name == name)).map fun m => (m.path.size, m.func)) = some (0, some (f, b))) :
    ∃ i m, Tryz.prog.info? 235 = some i ∧ i.methods.find? (·.name == name) = some m ∧ m.path = #[] ∧ m.func = some (f, b) := by
  cases hi : Tryz.prog.info? 235 with
  | none => rw [hi] at h; cases h
  | some i =>
    rw [hi] at h
    cases hm : i.methods.find? (·.name == name) with
    | none => simp [hm] at h
    | some m =>
      simp [hm] at h
      exact ⟨i, m, rfl, hm, h.1, h.2⟩
theorem method_less (xb : Nat) (v : Value) (n : Nat) (w : World) (h : w.cell? ⟨xb, 0, none⟩ = some v) : (method (n + 1) 235 (.pointer (some ⟨xb, 0, none⟩)) "Less").run Tryz.prog w = .ok (328, v) w := by
  obtain ⟨i, m, hi, hm, hp, hf⟩ := rowMethod "Less" 328 false (by kernel_rfl)
  exact run_method_val hi hm hp hf Tryz.underlying235 (by simp [go_sem, h])
theorem method_swap (xb : Nat) (v : Value) (n : Nat) (w : World) (h : w.cell? ⟨xb, 0, none⟩ = some v) : (method (n + 1) 235 (.pointer (some ⟨xb, 0, none⟩)) "Swap").run Tryz.prog w = .ok (329, v) w := by
  obtain ⟨i, m, hi, hm, hp, hf⟩ := rowMethod "Swap" 329 false (by kernel_rfl)
  exact run_method_val hi hm hp hf Tryz.underlying235 (by simp [go_sem, h])
theorem method_len (xb : Nat) (v : Value) (n : Nat) (w : World) (h : w.cell? ⟨xb, 0, none⟩ = some v) : (method (n + 1) 235 (.pointer (some ⟨xb, 0, none⟩)) "Len").run Tryz.prog w = .ok (327, v) w := by
  obtain ⟨i, m, hi, hm, hp, hf⟩ := rowMethod "Len" 327 false (by kernel_rfl)
  exact run_method_val hi hm hp hf Tryz.underlying235 (by simp [go_sem, h])
theorem method_push (xb : Nat) (n : Nat) (w : World) : (method (n + 1) 235 (.pointer (some ⟨xb, 0, none⟩)) "Push").run Tryz.prog w = .ok (338, .pointer (some ⟨xb, 0, none⟩)) w := by
  obtain ⟨i, m, hi, hm, hp, hf⟩ := rowMethod "Push" 338 true (by kernel_rfl)
  exact run_method_ptr hi hm hp hf Tryz.underlying235
theorem method_pop (xb : Nat) (n : Nat) (w : World) : (method (n + 1) 235 (.pointer (some ⟨xb, 0, none⟩)) "Pop").run Tryz.prog w = .ok (337, .pointer (some ⟨xb, 0, none⟩)) w := by
  obtain ⟨i, m, hi, hm, hp, hf⟩ := rowMethod "Pop" 337 true (by kernel_rfl)
  exact run_method_ptr hi hm hp hf Tryz.underlying235

abbrev rowI (xb : Nat) : Value := .iface 235 (.pointer (some ⟨xb, 0, none⟩))

set_option maxRecDepth 100000 in
set_option maxHeartbeats 1000000 in
theorem up_any {w0 w : World} {l r sl : Hp} {xb mb g n cap j : Nat} {es : List En} (hS : Step w0 l w (HeapHp xb mb (.slice (some ⟨g, 0, none⟩) n cap) sl es ++ r)) (hat : HeapAt (.slice (some ⟨g, 0, none⟩) n cap) sl es) (hj : j < es.length) (hB : es.length ≤ 1099511627776) :
    Calls Tryz.prog 211 #[rowI xb, .int .i64 j] w fun e w' => e = .returned (.tuple #[]) ∧ ∃ sl' es', (es'.Perm es ∧ es'.drop (j + 1) = es.drop (j + 1)) ∧ HeapAt (.slice (some ⟨g, 0, none⟩) n cap) sl' es' ∧ Step w0 l w' (HeapHp xb mb (.slice (some ⟨g, 0, none⟩) n cap) sl' es' ++ r) := by
  have hS' := hid hS
  have hat' := hid hat
  have hml := method_less xb (.slice (some ⟨g, 0, none⟩) n cap)
  have hms := method_swap xb (.slice (some ⟨g, 0, none⟩) n cap)
  clear hS hat
  go_enter Tryz.func211, Tryz.ntmps211
  go_wp2_with fail
  go_loopw [1] (fun c wr => ∃ (k : Nat) (sl' : Hp) (es' : List En), c = .int .i64 k ∧ k ≤ j ∧ Hid (es'.length = es.length) ∧ Hid (es'.Perm es ∧ es'.drop (j + 1) = es.drop (j + 1)) ∧ Hid (HeapAt (.slice (some ⟨g, 0, none⟩) n cap) sl' es') ∧ Hid (Step w0 l wr (HeapHp xb mb (.slice (some ⟨g, 0, none⟩) n cap) sl' es' ++ r))) (fun c _ => (intOf c).toNat)
  case atStart => exact ⟨j, sl, es, rfl, Nat.le_refl _, hid rfl, hid ⟨List.Perm.refl _, rfl⟩, hat', hS'⟩
  case round =>
    obtain ⟨k, sl', es', rfl, hk, hlen, hperm, hat2, hS2⟩ := hrel
    have c0 : wr.cell? ⟨xb, 0, none⟩ = some (.slice (some ⟨g, 0, none⟩) n cap) := cells_get hS2.out.own.head 0
    by_cases hk0 : k = 0
    · subst hk0
      go_wp2_with fail
      go_end0
      exact ⟨rfl, sl', es', hperm.out, hat2.out, hS2.out⟩
    · have hkp : 0 < k := by omega
      obtain ⟨i, hik, hii⟩ : ∃ i : Nat, i < k ∧ ((k : Int) - 1) / 2 = (i : Int) := ⟨(k - 1) / 2, by omega, by omega⟩
      have hbq : ((i : Int) == (k : Int)) = false := by rw [beq_eq_false_iff_ne]; omega
      have hless := hid (heap_less hS2.out hat2.out (i := k) (j := i) (by rw [hlen.out]; omega) (by rw [hlen.out]; omega))
      clear hk0
      go_wp2_with fail
      refine hless.out.mono ?_
      rintro e w2 ⟨rfl, S3⟩
      have c0' : w2.cell? ⟨xb, 0, none⟩ = some (.slice (some ⟨g, 0, none⟩) n cap) := cells_get S3.own.head 0
      have hswap := hid (heap_swap S3 hat2.out hik (by rw [hlen.out]; omega))
      replace S3 := hid S3
      clear hless c0
      cases hlt : enLess (es'[k]'(by rw [hlen.out]; omega)) (es'[i]'(by rw [hlen.out]; omega)) with
      | true =>
        go_wp2_with fail
        refine hswap.out.mono ?_
        rintro e w3 ⟨rfl, sl3, hat3, S4⟩
        replace hat3 := hid hat3
        replace S4 := hid S4
        go_wp2_with fail
        go_roundw
        case rel => exact ⟨i, sl3, swapE es' i k, rfl, by omega, hid (by rw [swapE_len]; exact hlen.out), hid ⟨(swapE_perm hik (by rw [hlen.out]; omega)).trans hperm.out.1, (swapE_drop hik (by omega)).trans hperm.out.2⟩, hat3, S4⟩
        case measure => simp [intOf]; omega
      | false =>
        go_wp2_with fail
        go_end0
        exact ⟨rfl, sl', es', hperm.out, hat2.out, S3.out⟩

def SomeBool (e : Ending) : Prop := ∃ b, e = .returned (.bool b)

set_option maxRecDepth 100000 in
set_option maxHeartbeats 2000000 in
theorem down_any {w0 w : World} {l r sl : Hp} {xb mb g n cap i m : Nat} {es : List En} (hS : Step w0 l w (HeapHp xb mb (.slice (some ⟨g, 0, none⟩) n cap) sl es ++ r)) (hat : HeapAt (.slice (some ⟨g, 0, none⟩) n cap) sl es) (hi : i ≤ m) (hm : m ≤ es.length) (hB : es.length ≤ 1099511627776) :
    Calls Tryz.prog 210 #[rowI xb, .int .i64 i, .int .i64 m] w fun e w' => SomeBool e ∧ ∃ sl' es', (es'.Perm es ∧ es'.drop m = es.drop m) ∧ HeapAt (.slice (some ⟨g, 0, none⟩) n cap) sl' es' ∧ Step w0 l w' (HeapHp xb mb (.slice (some ⟨g, 0, none⟩) n cap) sl' es' ++ r) := by
  have hS' := hid hS
  have hat' := hid hat
  have hml := method_less xb (.slice (some ⟨g, 0, none⟩) n cap)
  have hms := method_swap xb (.slice (some ⟨g, 0, none⟩) n cap)
  clear hS hat
  go_enter Tryz.func210, Tryz.ntmps210
  go_wp2_with fail
  go_loopw [7] (fun c wr => ∃ (k : Nat) (sl' : Hp) (es' : List En), c = .int .i64 k ∧ k ≤ m ∧ Hid (es'.length = es.length) ∧ Hid (es'.Perm es ∧ es'.drop m = es.drop m) ∧ Hid (HeapAt (.slice (some ⟨g, 0, none⟩) n cap) sl' es') ∧ Hid (Step w0 l wr (HeapHp xb mb (.slice (some ⟨g, 0, none⟩) n cap) sl' es' ++ r))) (fun c _ => m - (intOf c).toNat)
  case atStart => exact ⟨i, sl, es, rfl, hi, hid rfl, hid ⟨List.Perm.refl _, rfl⟩, hat', hS'⟩
  case round =>
    obtain ⟨k, sl', es', rfl, hk, hlen, hperm, hat2, hS2⟩ := hrel
    have c0 : wr.cell? ⟨xb, 0, none⟩ = some (.slice (some ⟨g, 0, none⟩) n cap) := cells_get hS2.out.own.head 0
    by_cases h1 : 2 * k + 1 < m
    · by_cases h2 : 2 * k + 2 < m
      · have hless := hid (heap_less hS2.out hat2.out (i := 2 * k + 2) (j := 2 * k + 1) (by rw [hlen.out]; omega) (by rw [hlen.out]; omega))
        have ecast : ((2 * k + 2 : Nat) : Int) = 2 * (k : Int) + 1 + 1 := by omega
        have ecast1 : ((2 * k + 1 : Nat) : Int) = 2 * (k : Int) + 1 := by omega
        rw [ecast, ecast1] at hless
        clear ecast ecast1
        go_wp2_with fail
        refine hless.out.mono ?_
        rintro e w3 ⟨rfl, S3⟩
        replace S3 := hid S3
        clear hless c0
        cases hb : enLess (es'[2 * k + 2]'(by rw [hlen.out]; omega)) (es'[2 * k + 1]'(by rw [hlen.out]; omega)) with
        | true =>
          have c0b : w3.cell? ⟨xb, 0, none⟩ = some (.slice (some ⟨g, 0, none⟩) n cap) := cells_get S3.out.own.head 0
          have hless2 := hid (heap_less S3.out hat2.out (i := 2 * k + 2) (j := k) (by rw [hlen.out]; omega) (by rw [hlen.out]; omega))
          have ecj : ((2 * k + 2 : Nat) : Int) = 2 * (k : Int) + 1 + 1 := by omega
          rw [ecj] at hless2
          go_wp2_with fail
          refine hless2.out.mono ?_
          rintro e w4 ⟨rfl, S4⟩
          have c0c : w4.cell? ⟨xb, 0, none⟩ = some (.slice (some ⟨g, 0, none⟩) n cap) := cells_get S4.own.head 0
          have hswap := hid (heap_swap S4 hat2.out (i := k) (j := 2 * k + 2) (by omega) (by rw [hlen.out]; omega))
          rw [ecj] at hswap
          clear ecj
          replace S4 := hid S4
          clear hless2 c0b
          cases hlt : enLess (es'[2 * k + 2]'(by rw [hlen.out]; omega)) (es'[k]'(by rw [hlen.out]; omega)) with
          | true =>
            go_wp2_with fail
            refine hswap.out.mono ?_
            rintro e w5 ⟨rfl, sl5, hat5, S5⟩
            replace hat5 := hid hat5
            replace S5 := hid S5
            go_wp2_with fail
            go_roundw
            case rel => exact ⟨2 * k + 2, sl5, swapE es' k (2 * k + 2), by go_num, by omega, hid (by rw [swapE_len]; exact hlen.out), hid ⟨(swapE_perm (by omega) (by rw [hlen.out]; omega)).trans hperm.out.1, (swapE_drop (by omega) (by omega)).trans hperm.out.2⟩, hat5, S5⟩
            case measure => simp [intOf]; omega
          | false =>
            go_wp2_with fail
            go_ret
            exact ⟨⟨_, rfl⟩, sl', es', hperm.out, hat2.out, S4.out⟩
        | false =>
          have c0b : w3.cell? ⟨xb, 0, none⟩ = some (.slice (some ⟨g, 0, none⟩) n cap) := cells_get S3.out.own.head 0
          have hless2 := hid (heap_less S3.out hat2.out (i := 2 * k + 1) (j := k) (by rw [hlen.out]; omega) (by rw [hlen.out]; omega))
          have ecj : ((2 * k + 1 : Nat) : Int) = 2 * (k : Int) + 1 := by omega
          rw [ecj] at hless2
          go_wp2_with fail
          refine hless2.out.mono ?_
          rintro e w4 ⟨rfl, S4⟩
          have c0c : w4.cell? ⟨xb, 0, none⟩ = some (.slice (some ⟨g, 0, none⟩) n cap) := cells_get S4.own.head 0
          have hswap := hid (heap_swap S4 hat2.out (i := k) (j := 2 * k + 1) (by omega) (by rw [hlen.out]; omega))
          rw [ecj] at hswap
          clear ecj
          replace S4 := hid S4
          clear hless2 c0b
          cases hlt : enLess (es'[2 * k + 1]'(by rw [hlen.out]; omega)) (es'[k]'(by rw [hlen.out]; omega)) with
          | true =>
            go_wp2_with fail
            refine hswap.out.mono ?_
            rintro e w5 ⟨rfl, sl5, hat5, S5⟩
            replace hat5 := hid hat5
            replace S5 := hid S5
            go_wp2_with fail
            go_roundw
            case rel => exact ⟨2 * k + 1, sl5, swapE es' k (2 * k + 1), by go_num, by omega, hid (by rw [swapE_len]; exact hlen.out), hid ⟨(swapE_perm (by omega) (by rw [hlen.out]; omega)).trans hperm.out.1, (swapE_drop (by omega) (by omega)).trans hperm.out.2⟩, hat5, S5⟩
            case measure => simp [intOf]; omega
          | false =>
            go_wp2_with fail
            go_ret
            exact ⟨⟨_, rfl⟩, sl', es', hperm.out, hat2.out, S4.out⟩
      · clear c0
        have c0b : wr.cell? ⟨xb, 0, none⟩ = some (.slice (some ⟨g, 0, none⟩) n cap) := cells_get hS2.out.own.head 0
        have hless2 := hid (heap_less hS2.out hat2.out (i := 2 * k + 1) (j := k) (by rw [hlen.out]; omega) (by rw [hlen.out]; omega))
        have ecj : ((2 * k + 1 : Nat) : Int) = 2 * (k : Int) + 1 := by omega
        rw [ecj] at hless2
        go_wp2_with fail
        refine hless2.out.mono ?_
        rintro e w4 ⟨rfl, S4⟩
        have c0c : w4.cell? ⟨xb, 0, none⟩ = some (.slice (some ⟨g, 0, none⟩) n cap) := cells_get S4.own.head 0
        have hswap := hid (heap_swap S4 hat2.out (i := k) (j := 2 * k + 1) (by omega) (by rw [hlen.out]; omega))
        rw [ecj] at hswap
        clear ecj
        replace S4 := hid S4
        clear hless2 c0b
        cases hlt : enLess (es'[2 * k + 1]'(by rw [hlen.out]; omega)) (es'[k]'(by rw [hlen.out]; omega)) with
        | true =>
          go_wp2_with fail
          refine hswap.out.mono ?_
          rintro e w5 ⟨rfl, sl5, hat5, S5⟩
          replace hat5 := hid hat5
          replace S5 := hid S5
          go_wp2_with fail
          go_roundw
          case rel => exact ⟨2 * k + 1, sl5, swapE es' k (2 * k + 1), by go_num, by omega, hid (by rw [swapE_len]; exact hlen.out), hid ⟨(swapE_perm (by omega) (by rw [hlen.out]; omega)).trans hperm.out.1, (swapE_drop (by omega) (by omega)).trans hperm.out.2⟩, hat5, S5⟩
          case measure => simp [intOf]; omega
        | false =>
          go_wp2_with fail
          go_ret
          exact ⟨⟨_, rfl⟩, sl', es', hperm.out, hat2.out, S4.out⟩
    · go_wp2_with fail
      go_ret
      exact ⟨⟨_, rfl⟩, sl', es', hperm.out, hat2.out, hS2.out⟩
end Go.Proofs.YthfngplckbggpaaGreatDoor

namespace Go.Proofs.YthfngplckbggpaaGreatDoor
open Go Go.RowKit

theorem entryPtrInfo : (Tryz.prog.info? 232).map (fun i => (i.zero, i.size, i.bytes)) = some (some (.pointer none), 1, 8) := by kernel_rfl

theorem SliceHp.shape {k : Nat} {T : TypeId} {v : Value} {n : Nat} {xs : List Value} {l : Hp} (h : SliceHp k T v n xs l) : ∃ a c, v = .slice a n c := by
  cases h with
  | nil => exact ⟨_, _, rfl⟩
  | laid g n cap xs rest hx hr hn hc => exact ⟨_, _, rfl⟩
theorem HeapAt.rv {rv : Value} {sl : Hp} {es : List En} (h : HeapAt rv sl es) : (es = [] ∧ ∃ a c, rv = .slice a 0 c) ∨ ∃ g cap, rv = .slice (some ⟨g, 0, none⟩) es.length cap ∧ es.length ≤ cap ∧ cap ≤ maxLen := by
  obtain ⟨hsl⟩ := h
  generalize es.map enPtr = xs at hsl
  generalize hn : es.length = n at hsl
  cases hsl with
  | nil => exact .inl ⟨List.eq_nil_of_length_eq_zero hn, _, _, rfl⟩
  | laid g n cap xs rest hx hr hnc hc => exact .inr ⟨g, cap, rfl, hnc, hc⟩
def sliceLen : Value → Nat
  | .slice _ n _ => n
  | _ => 0
theorem HeapAt.shape {rv : Value} {sl : Hp} {es : List En} (h : HeapAt rv sl es) : ∃ a c, rv = .slice a es.length c := by
  rcases h.rv with ⟨rfl, a, c, hr⟩ | ⟨g, cap, hr, _⟩
  · exact ⟨a, c, hr⟩
  · exact ⟨_, _, hr⟩

set_option maxRecDepth 100000 in
set_option maxHeartbeats 1000000 in
theorem push_any {w0 w : World} {l r sl : Hp} {xb mb eb : Nat} {t : Int} {key : ByteArray} {x : Value} {rv : Value} {es : List En}
    (hS : Step w0 l w ((eb, .cells #[.int .i64 t, .string key, x] 239 (0, 0)) :: (HeapHp xb mb rv sl es ++ r))) (hat : HeapAt rv sl es) (hB : es.length ≤ 1099511627776) :
    Calls Tryz.prog 338 #[.pointer (some ⟨xb, 0, none⟩), .iface 232 (ptr' eb)] w fun e w' => e = .returned (.tuple #[]) ∧
      ∃ rv' sl', HeapAt rv' sl' (es ++ [⟨eb, t, key⟩]) ∧ Step w0 l w' (HeapHp xb mb rv' sl' (es ++ [⟨eb, t, key⟩]) ++ r) := by
  obtain ⟨a, c, rfl⟩ := hat.shape
  have hown := hS.own
  have he2 : w.cell? ⟨eb, 2, none⟩ = some x := cells_get hown.head 2
  have hf2 : w.frozen? ⟨eb, 2, none⟩ = false := cells_free hown.head 2
  have c0 : w.cell? ⟨xb, 0, none⟩ = some (.slice a es.length c) := cells_get hown.tail.head 0
  have f0 : w.frozen? ⟨xb, 0, none⟩ = false := cells_free hown.tail.head 0
  have hxlt := block_lt hown.tail.head
  have helt := block_lt hown.head
  have hne : eb ≠ xb := by have := hown.nd; simp [HeapHp] at this; exact this.1.1
  have S1 := (hS.set 2 (.int .i64 es.length)).alloc (.cells #[ptr' eb] 232)
  have hsz : (w.setCell ⟨eb, 2, none⟩ (.int .i64 es.length)).heap.size = w.heap.size := by simp
  rw [hsz] at S1
  have hnew := S1.own.head
  have S2 := S1.permR (l2 := sl ++ ((w.heap.size, .cells #[ptr' eb] 232) :: (xb, ExpObj (.slice a es.length c) mb) :: (eb, .cells #[.int .i64 t, .string key, .int .i64 es.length] 239 (0, 0)) :: (entHp 0 es ++ r))) (by
    simp only [HeapHp, List.cons_append, List.append_assoc]
    refine List.Perm.trans (List.Perm.cons _ (List.Perm.swap _ _ _)) ?_
    exact List.perm_append_comm_assoc [_, _, _] sl _)
  obtain ⟨hsl⟩ := hat
  obtain ⟨v', w2, sl', hrun, hsl', S3, _⟩ := run_append (P := Tryz.prog) (ty := 106) Tryz.underlying106 Tryz.underlying106 entryPtrInfo rfl (by decide) S2 hsl
    ⟨w.heap.size, 0, none⟩ 1 1 [ptr' eb] rfl (by
      intro j u hu
      obtain rfl : j = 0 := by have := (List.getElem?_eq_some_iff.1 hu).1; simp at this; exact this
      simp only [List.getElem?_cons_zero, Option.some.injEq] at hu
      subst hu
      exact cells_get hnew 0) (by intro u hu; simp at hu; subst hu; rfl) (by decide) (by omega) (by unfold maxLen; omega)
  obtain ⟨a', c', rfl⟩ := hsl'.shape
  have hlt2 : ∀ b, b ∈ keys ((w.heap.size, Obj.cells #[ptr' eb] 232) :: (xb, ExpObj (.slice a es.length c) mb) :: (eb, Obj.cells #[.int .i64 t, .string key, .int .i64 es.length] 239 (0, 0)) :: (entHp 0 es ++ r)) → b < w2.heap.size := fun b hb => S3.own.lt (by rw [keys_append]; exact List.mem_append_right _ hb)
  have hx2 : w2.heap[xb]? = some (ExpObj (.slice a es.length c) mb) := S3.own.right.tail.head
  have d0 : w2.cell? ⟨xb, 0, none⟩ = some (.slice a es.length c) := cells_get hx2 0
  have g0 : w2.frozen? ⟨xb, 0, none⟩ = false := cells_free hx2 0
  have hfin : Hid (∀ W, W = w2.setCell ⟨xb, 0, none⟩ (.slice a' (es.length + 1) c') → ∃ rv' sl', HeapAt rv' sl' (es ++ [⟨eb, t, key⟩]) ∧ Step w0 l W (HeapHp xb mb rv' sl' (es ++ [⟨eb, t, key⟩]) ++ r)) := by
    rintro W rfl
    refine ⟨.slice a' (es.length + 1) c', sl', ⟨by simpa [enPtr] using hsl'⟩, ?_⟩
    have h1 := (S3.permR (l2 := (xb, ExpObj (.slice a es.length c) mb) :: (sl' ++ ((w.heap.size, .cells #[ptr' eb] 232) :: (eb, .cells #[.int .i64 t, .string key, .int .i64 es.length] 239 (0, 0)) :: (entHp 0 es ++ r)))) (by
      refine List.Perm.trans (List.Perm.append_left _ (List.Perm.swap _ _ _)) ?_
      exact List.perm_middle)).set 0 (.slice a' (es.length + 1) c')
    have h2 := h1.less (l2 := (xb, ExpObj (.slice a' (es.length + 1) c') mb) :: (sl' ++ ((eb, .cells #[.int .i64 t, .string key, .int .i64 es.length] 239 (0, 0)) :: (entHp 0 es ++ r)))) (List.Sublist.cons_cons _ (List.Sublist.append (List.Sublist.refl _) (List.sublist_cons_self _ _)))
    refine h2.permR ?_
    rw [HeapHp, entHp_append]
    simp only [entHp, Nat.zero_add, List.cons_append, List.append_assoc, List.nil_append]
    exact List.Perm.cons _ (List.Perm.append_left _ List.perm_middle.symm)
  clear S1 S2 S3 hsl hsl' hlt2 hx2 hown hnew hS
  have hta : ∀ w, (Instr.typeAssert (.iface 232 (ptr' eb)) 20 232 false).run Tryz.prog w = .ok (ptr' eb) w := fun _ => by kernel_rfl
  go_enter Tryz.func338, Tryz.ntmps338
  replace hrun := hid hrun
  go_wp2_with (at_builtin; refine wpList_append_run rfl _ _ _ _ rfl _ _ rfl rfl hrun.out ?_)
  go_end0
  exact ⟨rfl, hfin.out _ rfl⟩

set_option maxRecDepth 100000 in
set_option maxHeartbeats 1000000 in
theorem pop_any {w0 w : World} {l r sl : Hp} {xb mb g n cap : Nat} {es : List En} {e : En}
    (hS : Step w0 l w (HeapHp xb mb (.slice (some ⟨g, 0, none⟩) n cap) sl (es ++ [e]) ++ r)) (hat : HeapAt (.slice (some ⟨g, 0, none⟩) n cap) sl (es ++ [e])) (hB : es.length < 1099511627776) :
    Calls Tryz.prog 337 #[.pointer (some ⟨xb, 0, none⟩)] w fun en w' => en = .returned (.iface 232 (ptr' e.b)) ∧
      ∃ rv' sl', HeapAt rv' sl' es ∧ Step w0 l w' ((e.b, EnObj e es.length) :: (HeapHp xb mb rv' sl' es ++ r)) := by
  obtain ⟨hsl⟩ := hat
  generalize hxs : (es ++ [e]).map enPtr = xs at hsl
  generalize hn : (es ++ [e]).length = n' at hsl
  cases hsl with
  | laid g n cap xs rest hx hr hnc hc =>
  subst hxs
  have hn1 : n = es.length + 1 := by rw [← hn]; simp
  subst hn1
  have hown := hS.own
  have c0 : w.cell? ⟨xb, 0, none⟩ = some (.slice (some ⟨g, 0, none⟩) (es.length + 1) cap) := cells_get hown.head 0
  have f0 : w.frozen? ⟨xb, 0, none⟩ = false := cells_free hown.head 0
  have hg : w.heap[g]? = some (.cells ((es ++ [e]).map enPtr ++ rest).toArray 232 (0, 0)) := hown.at_ (g, _) (by simp [HeapHp])
  have ce : w.cell? ⟨g, es.length, none⟩ = some (ptr' e.b) := by
    rw [cells_get hg]
    simp [enPtr]
  have hcb : cap ≤ 9223372036854775807 := by unfold maxLen at hc; omega
  have hfin : Hid (∀ W, W = w.setCell ⟨xb, 0, none⟩ (.slice (some ⟨g, 0, none⟩) es.length cap) → ∃ rv' sl', HeapAt rv' sl' es ∧ Step w0 l W ((e.b, EnObj e es.length) :: (HeapHp xb mb rv' sl' es ++ r))) := by
    rintro W rfl
    refine ⟨.slice (some ⟨g, 0, none⟩) es.length cap, [(g, .cells ((es ++ [e]).map enPtr ++ rest).toArray 232 (0, 0))], ⟨?_⟩, ?_⟩
    · have := SliceHp.laid (k := 1) (T := 232) g es.length cap (es.map enPtr) (enPtr e :: rest) (by simp) (by simp at hr ⊢; omega) (by omega) hc
      simpa using this
    · have hS2 := hS
      rw [HeapHp, entHp_append] at hS2
      simp only [entHp, Nat.zero_add, List.cons_append, List.append_assoc, List.nil_append] at hS2
      have h1 := Step.set hS2 0 (.slice (some ⟨g, 0, none⟩) es.length cap)
      refine h1.permR ?_
      simp only [HeapHp, List.cons_append, List.append_assoc, List.nil_append]
      exact List.perm_middle (l₁ := (xb, _) :: (g, _) :: entHp 0 es)
  clear hS hown hg hx hr hn hc
  go_enter Tryz.func337, Tryz.ntmps337
  go_wp2_with fail
  go_ret
  exact ⟨rfl, hfin.out _ rfl⟩
end Go.Proofs.YthfngplckbggpaaGreatDoor

namespace Go.Proofs.YthfngplckbggpaaGreatDoor
open Go Go.RowKit

set_option maxHeartbeats 400000 in
theorem rowLen_any (a : Option Addr) (n c : Nat) (w : World) : Calls Tryz.prog 327 #[.slice a n c] w fun e w' => e = .returned (.int .i64 n) ∧ w = w' := by
  go_enter Tryz.func327, Tryz.ntmps327
  go_wp2_with fail
  go_ret
  exact ⟨rfl, rfl⟩

def HeapNow (w0 : World) (l : Hp) (xb mb : Nat) (r : Hp) (es0 : List En) (w' : World) : Prop :=
  ∃ rv' sl' es', es'.Perm es0 ∧ HeapAt rv' sl' es' ∧ Step w0 l w' (HeapHp xb mb rv' sl' es' ++ r)

set_option maxRecDepth 100000 in
set_option maxHeartbeats 1000000 in
theorem hpush_any {w0 w : World} {l r sl : Hp} {xb mb eb : Nat} {t : Int} {key : ByteArray} {x : Value} {rv : Value} {es : List En}
    (hS : Step w0 l w ((eb, .cells #[.int .i64 t, .string key, x] 239 (0, 0)) :: (HeapHp xb mb rv sl es ++ r))) (hat : HeapAt rv sl es) (hB : es.length < 1099511627776) :
    Calls Tryz.prog 192 #[rowI xb, .iface 232 (ptr' eb)] w fun e w' => e = .returned (.tuple #[]) ∧ HeapNow w0 l xb mb r (es ++ [⟨eb, t, key⟩]) w' := by
  have hpush := hid (push_any hS hat (by omega))
  have hmp := method_push xb
  have hml := fun v => method_len xb v
  clear hS hat
  go_enter Tryz.func192, Tryz.ntmps192
  go_wp2_with fail
  refine hpush.out.mono ?_
  rintro e w2 ⟨rfl, rv', sl', hat2, S2⟩
  have hlen : (es ++ [(⟨eb, t, key⟩ : En)]).length = es.length + 1 := by simp
  rcases hat2.rv with ⟨h, _⟩ | ⟨g, cap, rfl, hc1, hc2⟩
  · simp at h
  have c0 : w2.cell? ⟨xb, 0, none⟩ = some (.slice (some ⟨g, 0, none⟩) (es ++ [(⟨eb, t, key⟩ : En)]).length cap) := cells_get S2.own.head 0
  have hup := hid (up_any (j := es.length) S2 hat2 (by rw [hlen]; omega) (by rw [hlen]; omega))
  rw [hlen] at c0 hup
  have hlenc := hid (rowLen_any (some ⟨g, 0, none⟩) (es.length + 1) cap w2)
  clear hpush hmp S2 hat2 hlen
  go_wp2_with fail
  refine hlenc.out.mono ?_
  rintro e w3 ⟨rfl, rfl⟩
  go_wp2_with fail
  refine hup.out.mono ?_
  rintro e w4 ⟨rfl, sl4, es4, ⟨hp4, _⟩, hat4, S4⟩
  replace hp4 := hid hp4
  replace hat4 := hid hat4
  replace S4 := hid S4
  go_wp2_with fail
  go_end0
  exact ⟨rfl, _, sl4, es4, hp4.out, hat4.out, S4.out⟩

set_option maxRecDepth 100000 in
set_option maxHeartbeats 1000000 in
theorem hfix_any {w0 w : World} {l r sl : Hp} {xb mb i : Nat} {rv : Value} {es : List En}
    (hS : Step w0 l w (HeapHp xb mb rv sl es ++ r)) (hat : HeapAt rv sl es) (hi : i < es.length) (hB : es.length ≤ 1099511627776) :
    Calls Tryz.prog 191 #[rowI xb, .int .i64 i] w fun e w' => e = .returned (.tuple #[]) ∧ HeapNow w0 l xb mb r es w' := by
  rcases hat.rv with ⟨h, _⟩ | ⟨g, cap, rfl, hc1, hc2⟩
  · subst h; simp at hi
  have c0 : w.cell? ⟨xb, 0, none⟩ = some (.slice (some ⟨g, 0, none⟩) es.length cap) := cells_get hS.own.head 0
  have hdown := hid (down_any (i := i) (m := es.length) hS hat (by omega) (Nat.le_refl _) hB)
  have hlenc := hid (rowLen_any (some ⟨g, 0, none⟩) es.length cap w)
  have hml := method_len xb (.slice (some ⟨g, 0, none⟩) es.length cap)
  clear hS hat
  go_enter Tryz.func191, Tryz.ntmps191
  go_wp2_with fail
  refine hlenc.out.mono ?_
  rintro e w3 ⟨rfl, rfl⟩
  go_wp2_with fail
  refine hdown.out.mono ?_
  rintro e w4 ⟨⟨b, rfl⟩, sl4, es4, ⟨hp4, _⟩, hat4, S4⟩
  have hlen4 := hp4.length_eq
  clear hdown hlenc
  cases b with
  | true =>
    replace hp4 := hid hp4
    replace hat4 := hid hat4
    replace S4 := hid S4
    replace hlen4 := hid hlen4
    go_wp2_with fail
    go_end0
    exact ⟨rfl, _, sl4, es4, hp4.out, hat4.out, S4.out⟩
  | false =>
    have hup := hid (up_any (j := i) S4 hat4 (by omega) (by omega))
    replace hp4 := hid hp4
    replace hat4 := hid hat4
    replace S4 := hid S4
    replace hlen4 := hid hlen4
    go_wp2_with fail
    refine hup.out.mono ?_
    rintro e w5 ⟨rfl, sl5, es5, ⟨hp5, _⟩, hat5, S5⟩
    replace hp5 := hid hp5
    replace hat5 := hid hat5
    replace S5 := hid S5
    go_wp2_with fail
    go_end0
    exact ⟨rfl, _, sl5, es5, hp5.out.trans hp4.out, hat5.out, S5.out⟩

theorem last_of_drop {es : List En} {n : Nat} {x : En} (h : es.drop n = [x]) : es = es.take n ++ [x] := by
  rw [← h, List.take_append_drop]
theorem swapE_last {es : List En} {i n : Nat} {z : En} (hin : i < n) (hn : n + 1 = es.length) (hz : es[i]? = some z) : (swapE es i n).drop n = [z] := by
  obtain ⟨A, x, B, y, C, rfl, rfl, rfl⟩ := two_split (es := es) hin (by omega)
  obtain rfl : x = z := by simpa using hz
  have hC : C = [] := by
    simp only [List.length_append, List.length_cons] at hn
    exact List.eq_nil_of_length_eq_zero (by omega)
  subst hC
  rw [swapE_split]
  have : A ++ y :: (B ++ [x]) = (A ++ y :: B) ++ [x] := by simp
  rw [this]
  exact List.drop_left' (by simp; omega)

def Removed (w0 : World) (l : Hp) (xb mb : Nat) (r : Hp) (es : List En) (x : En) (e : Ending) (w' : World) : Prop :=
  e = .returned (.iface 232 (ptr' x.b)) ∧ ∃ rv' sl' es', (es' ++ [x]).Perm es ∧ HeapAt rv' sl' es' ∧ Step w0 l w' ((x.b, EnObj x es'.length) :: (HeapHp xb mb rv' sl' es' ++ r))

theorem pop_removed {w0 w : World} {l r sl : Hp} {xb mb g n cap : Nat} {es0 es : List En} {x : En}
    (hS : Step w0 l w (HeapHp xb mb (.slice (some ⟨g, 0, none⟩) n cap) sl es ++ r)) (hat : HeapAt (.slice (some ⟨g, 0, none⟩) n cap) sl es) (hx : es.drop (es.length - 1) = [x]) (hp : es.Perm es0) (hB : es.length ≤ 1099511627776) :
    Calls Tryz.prog 337 #[.pointer (some ⟨xb, 0, none⟩)] w (Removed w0 l xb mb r es0 x) := by
  have e1 := last_of_drop hx
  have hlen : (es.take (es.length - 1)).length < 1099511627776 := by
    have : 0 < es.length := by
      rcases Nat.eq_zero_or_pos es.length with h | h
      · rw [List.eq_nil_of_length_eq_zero h] at hx; cases hx
      · exact h
    simp; omega
  rw [e1] at hS hat hp
  refine (pop_any hS hat hlen).mono ?_
  rintro e w' ⟨he, rv', sl', hat', S'⟩
  exact ⟨he, rv', sl', _, hp, hat', S'⟩

set_option maxRecDepth 100000 in
set_option maxHeartbeats 2000000 in
theorem hremove_any {w0 w : World} {l r sl : Hp} {xb mb i : Nat} {rv : Value} {es : List En} {x : En}
    (hS : Step w0 l w (HeapHp xb mb rv sl es ++ r)) (hat : HeapAt rv sl es) (hx : es[i]? = some x) (hB : es.length ≤ 1099511627776) :
    Calls Tryz.prog 170 #[rowI xb, .int .i64 i] w (Removed w0 l xb mb r es x) := by
  have hi : i < es.length := (List.getElem?_eq_some_iff.1 hx).1
  rcases hat.rv with ⟨h, _⟩ | ⟨g, cap, rfl, hc1, hc2⟩
  · subst h; simp at hi
  have c0 : w.cell? ⟨xb, 0, none⟩ = some (.slice (some ⟨g, 0, none⟩) es.length cap) := cells_get hS.own.head 0
  have hlenc := hid (rowLen_any (some ⟨g, 0, none⟩) es.length cap w)
  have hml := method_len xb (.slice (some ⟨g, 0, none⟩) es.length cap)
  have hms := method_swap xb (.slice (some ⟨g, 0, none⟩) es.length cap)
  have hmp := method_pop xb
  generalize hm : es.length = m at *
  by_cases hlast : i + 1 = m
  · have hpop := hid (pop_removed (x := x) hS hat (by rw [hm, show m - 1 = i by omega, List.drop_eq_getElem_cons (by omega), List.drop_of_length_le (by omega), (List.getElem?_eq_some_iff.1 hx).2]) (List.Perm.refl _) (by omega))
    have hq : (((m : Int) - 1) != (i : Int)) = false := by rw [bne_eq_false_iff_eq]; omega
    clear hS hat
    replace hm := hid hm
    replace hlast := hid hlast
    replace hx := hid hx
    have hrem : Hid (∀ e w', Removed w0 l xb mb r es x e w' → ∃ v, e = .returned v ∧ Removed w0 l xb mb r es x (.returned v) w') := fun e w' h => ⟨_, h.1, rfl, h.2⟩
    go_enter Tryz.func170, Tryz.ntmps170
    go_wp2_with fail
    refine hlenc.out.mono ?_
    rintro e w3 ⟨rfl, rfl⟩
    go_wp2_with fail
    refine hpop.out.mono ?_
    intro e w4 hR
    obtain ⟨v, rfl, hR'⟩ := hrem.out _ _ hR
    replace hR' := hid hR'
    clear hR hrem
    go_wp2_with fail
    go_ret
    exact hR'.out
  · obtain ⟨n, rfl⟩ : ∃ n, m = n + 1 := ⟨m - 1, by omega⟩
    have hin : i < n := by omega
    have hq : ((n : Int) != (i : Int)) = true := by rw [bne_iff_ne]; omega
    have hnn : (((n + 1 : Nat) : Int) - 1) = (n : Int) := by omega
    have hswap := hid (heap_swap (i := i) (j := n) hS hat hin (by omega))
    clear hS hat
    replace hm := hid hm
    replace hx := hid hx
    have hrem : Hid (∀ e w', Removed w0 l xb mb r es x e w' → ∃ v, e = .returned v ∧ Removed w0 l xb mb r es x (.returned v) w') := fun e w' h => ⟨_, h.1, rfl, h.2⟩
    go_enter Tryz.func170, Tryz.ntmps170
    go_wp2_with fail
    refine hlenc.out.mono ?_
    rintro e w3 ⟨rfl, rfl⟩
    go_wp2_with fail
    refine hswap.out.mono ?_
    rintro e w4 ⟨rfl, sl4, hat4, S4⟩
    have hl4 : (swapE es i n).length = n + 1 := by rw [swapE_len]; exact hm.out
    have hd4 := swapE_last hin hm.out.symm hx.out
    have hp4 := swapE_perm (es := es) hin (by rw [hm.out]; omega)
    have hdown := hid (down_any (i := i) (m := n) S4 hat4 (by omega) (by omega) (by omega))
    clear hswap hlenc
    replace hd4 := hid hd4
    replace hp4 := hid hp4
    replace hl4 := hid hl4
    clear hat4 S4
    go_wp2_with fail
    refine hdown.out.mono ?_
    rintro e w5 ⟨⟨b, rfl⟩, sl5, es5, ⟨hp5, hd5⟩, hat5, S5⟩
    have hl5 := hp5.length_eq.trans hl4.out
    clear hdown
    cases b with
    | true =>
      have hpop := hid (pop_removed (x := x) S5 hat5 (by rw [hl5, show n + 1 - 1 = n by omega, hd5]; exact hd4.out) (hp5.trans hp4.out) (by omega))
      clear S5 hat5 hd5 hp5
      replace hl5 := hid hl5
      go_wp2_with fail
      refine hpop.out.mono ?_
      intro e w6 hR
      obtain ⟨v, rfl, hR'⟩ := hrem.out _ _ hR
      replace hR' := hid hR'
      clear hR hrem
      go_wp2_with fail
      go_ret
      exact hR'.out
    | false =>
      have hup := hid (up_any (j := i) S5 hat5 (by omega) (by omega))
      replace hp5 := hid hp5
      replace hd5 := hid hd5
      replace hl5 := hid hl5
      clear S5 hat5
      go_wp2_with fail
      refine hup.out.mono ?_
      rintro e w6 ⟨rfl, sl6, es6, ⟨hp6, hd6⟩, hat6, S6⟩
      have hl6 := hp6.length_eq.trans hl5.out
      have hd6' : es6.drop n = [x] := by
        have h1 : es6.drop n = (es6.drop (i + 1)).drop (n - (i + 1)) := by rw [List.drop_drop]; congr 1; omega
        have h2 : es5.drop n = (es5.drop (i + 1)).drop (n - (i + 1)) := by rw [List.drop_drop]; congr 1; omega
        rw [h1, hd6, ← h2, hd5.out]
        exact hd4.out
      have hpop := hid (pop_removed (x := x) S6 hat6 (by rw [hl6, show n + 1 - 1 = n by omega]; exact hd6') (hp6.trans (hp5.out.trans hp4.out)) (by omega))
      clear S6 hat6 hd6 hp6 hd6' hup
      replace hl6 := hid hl6
      go_wp2_with fail
      refine hpop.out.mono ?_
      intro e w7 hR
      obtain ⟨v, rfl, hR'⟩ := hrem.out _ _ hR
      replace hR' := hid hR'
      clear hR hrem
      go_wp2_with fail
      go_ret
      exact hR'.out

end Go.Proofs.YthfngplckbggpaaGreatDoor

namespace Go.Proofs.YthfngplckbggpaaGreatDoor
open Go Go.RowKit

def ExpHp (xb mb : Nat) (rv : Value) (sl : Hp) (es : List En) (o : Obj) : Hp := HeapHp xb mb rv sl es ++ [(mb, o)]
def enKP (e : En) : ByteArray × Value := (e.key, ptr' e.b)
def enKT (e : En) : ByteArray × Int := (e.key, e.t)
/-- What lies at xb ends keys as D tells. -/
def IsExpiry (l : Hp) (xb : Nat) (D : AL Int) : Prop :=
  ∃ mb o rv sl es m, l = ExpHp xb mb rv sl es o ∧ HeapAt rv sl es ∧ StrMap o m ∧ m.Perm (es.map enKP) ∧ D.Perm (es.map enKT) ∧ (D.map Prod.fst).Nodup

theorem kp_keys (es : List En) : (es.map enKP).map Prod.fst = (es.map enKT).map Prod.fst := by simp [enKP, enKT, Function.comp_def]
theorem zeroEntry (w : World) : (zeroValue 232).run Tryz.prog w = .ok (.pointer none) w := by kernel_rfl

theorem mlook_entries (es : List En) (key : ByteArray) : (mlook (es.map enKP) key = none ∧ mlook (es.map enKT) key = none ∧ ∀ e ∈ es, e.key ≠ key) ∨ ∃ (i : Nat) (e : En), es[i]? = some e ∧ e.key = key ∧ mlook (es.map enKP) key = some (ptr' e.b) ∧ mlook (es.map enKT) key = some e.t := by
  induction es with
  | nil => exact .inl ⟨rfl, rfl, by simp⟩
  | cons q es ih =>
    by_cases hq : q.key = key
    · refine .inr ⟨0, q, rfl, hq, ?_, ?_⟩
      · simp [mlook, enKP, hq]
      · simp [mlook, enKT, hq]
    · rcases ih with ⟨h1, h2, h3⟩ | ⟨i, e, h1, h2, h3, h4⟩
      · refine .inl ⟨?_, ?_, ?_⟩
        · simpa [mlook, enKP, hq] using h1
        · simpa [mlook, enKT, hq] using h2
        · intro e he
          rcases List.mem_cons.1 he with rfl | he
          · exact hq
          · exact h3 e he
      · refine .inr ⟨i + 1, e, by simpa using h1, h2, ?_, ?_⟩
        · simpa [mlook, enKP, hq] using h3
        · simpa [mlook, enKT, hq] using h4

theorem mdel_perm {α : Type} {m m' : AL α} (h : m.Perm m') (k : ByteArray) : (mdel m k).Perm (mdel m' k) := h.filter _
theorem mdel_cons {α : Type} {m : AL α} {k : ByteArray} {v : α} (h : k ∉ m.map Prod.fst) : mdel ((k, v) :: m) k = m := by
  simp only [mdel, List.filter_cons]
  simp only [ne_eq, not_true, decide_false, Bool.false_eq_true, if_false]
  rw [List.filter_eq_self]
  intro p hp
  have : p.1 ≠ k := fun e => h (List.mem_map.2 ⟨p, hp, e⟩)
  simpa using this

def ExpGetPost (D : AL Int) (key : ByteArray) (w : World) (e : Ending) (w' : World) : Prop :=
  e = .returned (.tuple #[.int .i64 ((mlook D key).getD 0), .bool (mlook D key).isSome]) ∧ w = w'

set_option maxHeartbeats 1000000 in
theorem eget_any (l : Hp) (xb : Nat) (D : AL Int) (key : ByteArray) (w : World) (hX : IsExpiry l xb D) (ho : Own w l) :
    Calls Tryz.prog 117 #[.pointer (some ⟨xb, 0, none⟩), .string key] w (ExpGetPost D key w) := by
  obtain ⟨mb, o, rv, sl, es, m, rfl, hat, hm, hp, hD, hn⟩ := hX
  have hmn : (m.map Prod.fst).Nodup := by
    have h1 : (m.map Prod.fst).Perm (D.map Prod.fst) := ((hp.map Prod.fst).trans (List.Perm.of_eq (kp_keys es))).trans (hD.map Prod.fst).symm
    exact h1.nodup_iff.2 hn
  have c1 : w.cell? ⟨xb, 1, none⟩ = some (.map (some mb)) := cells_get ho.head 1
  have hmb : w.heap[mb]? = some o := ho.right.head
  have hlk := run_look (P := Tryz.prog) (t := 104) Tryz.underlying104 Tryz.underlying9 zeroEntry hmb hm key
  rw [mlook_perm hp hmn] at hlk
  have hpost : Hid (∀ n is, (mlook D key).getD 0 = n → (mlook D key).isSome = is → ExpGetPost D key w (.returned (.tuple #[.int .i64 n, .bool is])) w) := fun n is h1 h2 => by subst h1 h2; exact ⟨rfl, rfl⟩
  rw [mlook_perm hD hn] at hpost
  rcases mlook_entries es key with ⟨h1, h2, h3⟩ | ⟨i, e, hi, hk, h1, h2⟩
  · rw [h1] at hlk
    rw [h2] at hpost
    simp only [Option.getD_none, Option.isSome_none] at hlk
    clear h1 h2 h3 hp hD hn hm hat ho
    go_enter Tryz.func117, Tryz.ntmps117
    go_wp2_with fail
    go_ret2
    exact hpost.out 0 false rfl rfl
  · rw [h1] at hlk
    rw [h2] at hpost
    simp only [Option.getD_some, Option.isSome_some] at hlk
    have hil := (List.getElem?_eq_some_iff.1 hi).1
    have he : w.heap[e.b]? = some (EnObj e i) := by
      have := ent_at (r1 := (xb, ExpObj rv mb) :: sl) (r2 := [(mb, o)]) (i := i) (by simpa [ExpHp, HeapHp] using ho) hil
      rwa [(List.getElem?_eq_some_iff.1 hi).2] at this
    have e0 : w.cell? ⟨e.b, 0, none⟩ = some (.int .i64 e.t) := cells_get he 0
    clear h1 h2 hp hD hn hm hat ho hi hil he
    go_enter Tryz.func117, Tryz.ntmps117
    go_wp2_with fail
    go_ret2
    exact hpost.out e.t true rfl rfl

set_option maxHeartbeats 1000000 in
theorem enew_any (w : World) : Calls Tryz.prog 25 #[] w fun e w' => ∃ xb l', e = .returned (.pointer (some ⟨xb, 0, none⟩)) ∧ IsExpiry l' xb [] ∧ Step w [] w' l' := by
  have hmm := @run_makeMap Tryz.prog
  go_enter Tryz.func25, Tryz.ntmps25
  go_wp2_with fail
  go_ret
  have S1 := ((Step.refl (Own.nil w)).alloc (.map #[] 0)).alloc (ExpObj (.slice none 0 0) w.heap.size)
  refine ⟨w.heap.size + 1, ExpHp (w.heap.size + 1) w.heap.size (.slice none 0 0) [] [] (.map #[] 0), rfl, ⟨_, _, _, _, [], [], rfl, ⟨.nil⟩, StrMap.empty, List.Perm.refl _, List.Perm.refl _, by simp⟩, ?_⟩
  have e : (w.alloc (.map #[] 0)).heap.size = w.heap.size + 1 := by simp
  rw [e] at S1
  exact S1

def EDropPost (l : Hp) (xb : Nat) (D : AL Int) (key : ByteArray) (w : World) (e : Ending) (w' : World) : Prop :=
  e = .returned (.bool (mlook D key).isSome) ∧ ∃ l', IsExpiry l' xb (mdel D key) ∧ Step w l w' l'

theorem anIface {w0 : World} {l : Hp} {xb mb : Nat} {r : Hp} {es : List En} {x : En} {e : Ending} {w' : World} (h : Removed w0 l xb mb r es x e w') :
    ∃ rv' sl' es', e = .returned (.iface 232 (ptr' x.b)) ∧ (es' ++ [x]).Perm es ∧ HeapAt rv' sl' es' ∧ Step w0 l w' (HeapHp xb mb rv' sl' es' ++ r) := by
  obtain ⟨h1, rv', sl', es', h2, h3, h4⟩ := h
  exact ⟨rv', sl', es', h1, h2, h3, h4.less (List.sublist_cons_self _ _)⟩

set_option maxRecDepth 100000 in
set_option maxHeartbeats 1000000 in
theorem edrop_any (l : Hp) (xb : Nat) (D : AL Int) (key : ByteArray) (w : World) (hX : IsExpiry l xb D) (hB : D.length ≤ 1099511627776) (ho : Own w l) :
    Calls Tryz.prog 115 #[.pointer (some ⟨xb, 0, none⟩), .string key] w (EDropPost l xb D key w) := by
  obtain ⟨mb, o, rv, sl, es, m, rfl, hat, hm, hp, hD, hn⟩ := hX
  have hmn : (m.map Prod.fst).Nodup := by
    have h1 : (m.map Prod.fst).Perm (D.map Prod.fst) := ((hp.map Prod.fst).trans (List.Perm.of_eq (kp_keys es))).trans (hD.map Prod.fst).symm
    exact h1.nodup_iff.2 hn
  have hlenD := hD.length_eq
  rw [List.length_map] at hlenD
  have c1 : w.cell? ⟨xb, 1, none⟩ = some (.map (some mb)) := cells_get ho.head 1
  have hmb : w.heap[mb]? = some o := ho.right.head
  have hlk := run_look (P := Tryz.prog) (t := 104) Tryz.underlying104 Tryz.underlying9 zeroEntry hmb hm key
  rw [mlook_perm hp hmn] at hlk
  have hpost : Hid (∀ is w' l', (mlook D key).isSome = is → IsExpiry l' xb (mdel D key) → Step w (ExpHp xb mb rv sl es o) w' l' → EDropPost (ExpHp xb mb rv sl es o) xb D key w (.returned (.bool is)) w') := fun is w' l' h1 h2 h3 => by subst h1; exact ⟨rfl, l', h2, h3⟩
  rw [mlook_perm hD hn] at hpost
  rcases mlook_entries es key with ⟨h1, h2, h3⟩ | ⟨i, e, hi, hk, h1, h2⟩
  · rw [h1] at hlk
    rw [h2] at hpost
    simp only [Option.getD_none, Option.isSome_none] at hlk
    have hdel : mdel D key = D := mdel_none (by rw [mlook_perm hD hn]; exact h2)
    have hfin := hid (show IsExpiry (ExpHp xb mb rv sl es o) xb (mdel D key) by rw [hdel]; exact ⟨mb, o, rv, sl, es, m, rfl, hat, hm, hp, hD, hn⟩)
    have hst := hid (Step.refl ho)
    clear h1 h2 h3 hp hD hn hm hat ho hmn hdel hlenD hB
    go_enter Tryz.func115, Tryz.ntmps115
    go_wp2_with fail
    go_ret
    exact hpost.out false _ _ rfl hfin.out hst.out
  · rw [h1] at hlk
    rw [h2] at hpost
    simp only [Option.getD_some, Option.isSome_some] at hlk
    have hil := (List.getElem?_eq_some_iff.1 hi).1
    have he : w.heap[e.b]? = some (EnObj e i) := by
      have := ent_at (r1 := (xb, ExpObj rv mb) :: sl) (r2 := [(mb, o)]) (i := i) (by simpa [ExpHp, HeapHp] using ho) hil
      rwa [(List.getElem?_eq_some_iff.1 hi).2] at this
    have e2 : w.cell? ⟨e.b, 2, none⟩ = some (.int .i64 i) := cells_get he 2
    have hrem := hid (hremove_any (Step.refl ho).drew hat hi (by omega))
    have hm' := hid hm
    have hp' := hid hp
    have hD' := hid hD
    have hn' := hid hn
    have hmn' := hid hmn
    replace hk := hid hk
    clear h1 h2 hp hD hn hm hat ho hi hil he hmn hlenD hB
    go_enter Tryz.func115, Tryz.ntmps115
    go_wp2_with fail
    go_still_tail 8, (by kernel_rfl)
    go_wp2_with fail
    refine hrem.out.mono ?_
    intro en w2 hR
    obtain ⟨rv2, sl2, es2, rfl, hp2, hat2, S2⟩ := anIface hR
    have c1b : w2.cell? ⟨xb, 1, none⟩ = some (.map (some mb)) := cells_get S2.own.head 1
    obtain ⟨o', hdel, hm2⟩ := run_del (P := Tryz.prog) (t := 104) Tryz.underlying104 Tryz.underlying9 0 S2.own.right.head hm'.out hmn'.out key 9
    obtain ⟨w3, hw3⟩ : ∃ w3 : World, w3 = { w2 with heap := w2.heap.setIfInBounds mb o' } := ⟨_, rfl⟩
    rw [← hw3] at hdel
    have S3 : Step w (ExpHp xb mb rv sl es o) w3 (ExpHp xb mb rv2 sl2 es2 o') :=
      ((S2.permR (l2 := (mb, o) :: HeapHp xb mb rv2 sl2 es2) List.perm_append_comm).obj hw3).permR (List.perm_append_comm (l₁ := [_]))
    have hfin : Hid (IsExpiry (ExpHp xb mb rv2 sl2 es2 o') xb (mdel D key)) := by
      have hke : key = e.key := hk.out.symm
      subst hke
      have hq : (e :: es2).Perm es := (List.perm_append_comm (l₁ := [e]) (l₂ := es2)).trans hp2
      have hnd : ((e :: es2).map En.key).Nodup := by
        have h1 : (D.map Prod.fst).Perm ((e :: es2).map En.key) := (hD'.out.map Prod.fst).trans ((List.Perm.of_eq (by simp [enKT, Function.comp_def])).trans (hq.map En.key).symm)
        exact h1.nodup_iff.1 hn'.out
      simp only [List.map_cons, List.nodup_cons] at hnd
      refine ⟨mb, o', rv2, sl2, es2, _, rfl, hat2, hm2, ?_, ?_, mdel_keys hn'.out⟩
      · have h1 := mdel_perm (hp'.out.trans (hq.map enKP).symm) e.key
        rw [List.map_cons] at h1
        refine h1.trans (List.Perm.of_eq (mdel_cons ?_))
        simpa [enKP, Function.comp_def] using hnd.1
      · have h1 := mdel_perm (hD'.out.trans (hq.map enKT).symm) e.key
        rw [List.map_cons] at h1
        refine h1.trans (List.Perm.of_eq (mdel_cons ?_))
        simpa [enKT, Function.comp_def] using hnd.1
    replace S3 := hid S3
    clear hlk hw3 hm2 S2 hR hp2 hat2
    go_wp2_with fail
    go_ret
    exact hpost.out true _ _ rfl hfin.out S3.out


theorem mset_perm {α : Type} {m m' : AL α} (h : m.Perm m') (k : ByteArray) (v : α) : (mset m k v).Perm (mset m' k v) := h.map _

/-- An entry's time is another one. -/
theorem heap_time {w0 w : World} {l r sl : Hp} {xb mb i : Nat} {rv : Value} {es : List En} {e : En} (hS : Step w0 l w (HeapHp xb mb rv sl es ++ r)) (hat : HeapAt rv sl es) (hi : es[i]? = some e) (t : Int) :
    HeapAt rv sl (es.set i ⟨e.b, t, e.key⟩) ∧ Step w0 l (w.setCell ⟨e.b, 0, none⟩ (.int .i64 t)) (HeapHp xb mb rv sl (es.set i ⟨e.b, t, e.key⟩) ++ r) := by
  obtain ⟨hil, hen⟩ := List.getElem?_eq_some_iff.1 hi
  subst hen
  have e1 : es = es.take i ++ es[i] :: es.drop (i + 1) := by
    rw [← List.drop_eq_getElem_cons hil, List.take_append_drop]
  have e2 : es.set i ⟨(es[i]).b, t, (es[i]).key⟩ = es.take i ++ ⟨(es[i]).b, t, (es[i]).key⟩ :: es.drop (i + 1) := by
    rw [List.set_eq_take_append_cons_drop, if_pos hil]
  have htl : (es.take i).length = i := by simp; omega
  have h1 : entHp 0 es = entHp 0 (es.take i) ++ ((es[i]).b, EnObj es[i] i) :: entHp (i + 1) (es.drop (i + 1)) := by
    conv => lhs; rw [e1]
    rw [entHp_append, htl]
    simp [entHp]
  have h2 : entHp 0 (es.set i ⟨(es[i]).b, t, (es[i]).key⟩) = entHp 0 (es.take i) ++ ((es[i]).b, EnObj ⟨(es[i]).b, t, (es[i]).key⟩ i) :: entHp (i + 1) (es.drop (i + 1)) := by
    rw [e2, entHp_append, htl]
    simp [entHp]
  constructor
  · obtain ⟨hsl⟩ := hat
    refine ⟨?_⟩
    rw [List.length_set]
    have : (es.set i ⟨(es[i]).b, t, (es[i]).key⟩).map enPtr = es.map enPtr := by
      apply List.ext_getElem?
      intro j
      simp only [List.getElem?_map, List.getElem?_set]
      by_cases hij : i = j
      · subst hij
        rw [if_pos rfl, if_pos hil, hi]
        rfl
      · rw [if_neg hij]
    rw [this]
    exact hsl
  · rw [HeapHp, h1] at hS
    have hS2 : Step w0 l w (((xb, ExpObj rv mb) :: (sl ++ entHp 0 (es.take i))) ++ ((es[i]).b, EnObj es[i] i) :: (entHp (i + 1) (es.drop (i + 1)) ++ r)) := hS.permR (List.Perm.of_eq (by simp))
    have h3 := hS2.setIn 0 (.int .i64 t)
    refine h3.permR (List.Perm.of_eq ?_)
    rw [HeapHp, h2]
    simp

def EPutPost (l : Hp) (xb : Nat) (D : AL Int) (key : ByteArray) (t : Int) (w : World) (e : Ending) (w' : World) : Prop :=
  e = .returned (.int .i64 0) ∧ ∃ l', IsExpiry l' xb (mput D key t) ∧ Step w l w' l'

set_option maxRecDepth 100000 in
set_option maxHeartbeats 1000000 in
theorem eput_any (l : Hp) (xb : Nat) (D : AL Int) (key : ByteArray) (t : Int) (w : World) (hX : IsExpiry l xb D) (hB : D.length < 1099511627776) (ht : 0 ≤ t ∧ t ≤ 4611686018427387904) (ho : Own w l) :
    Calls Tryz.prog 152 #[.pointer (some ⟨xb, 0, none⟩), .string key, .int .i64 t] w (EPutPost l xb D key t w) := by
  obtain ⟨mb, o, rv, sl, es, m, rfl, hat, hm, hp, hD, hn⟩ := hX
  have hmn : (m.map Prod.fst).Nodup := by
    have h1 : (m.map Prod.fst).Perm (D.map Prod.fst) := ((hp.map Prod.fst).trans (List.Perm.of_eq (kp_keys es))).trans (hD.map Prod.fst).symm
    exact h1.nodup_iff.2 hn
  have hlenD := hD.length_eq
  rw [List.length_map] at hlenD
  have ht1 : ¬ t < 0 := by omega
  have ht2 : ¬ 4611686018427387904 < t := by omega
  clear ht
  have c1 : w.cell? ⟨xb, 1, none⟩ = some (.map (some mb)) := cells_get ho.head 1
  have hmb : w.heap[mb]? = some o := ho.right.head
  have hlk := run_look (P := Tryz.prog) (t := 104) Tryz.underlying104 Tryz.underlying9 zeroEntry hmb hm key
  rw [mlook_perm hp hmn] at hlk
  have hpost : Hid (∀ w' l', IsExpiry l' xb (mput D key t) → Step w (ExpHp xb mb rv sl es o) w' l' → EPutPost (ExpHp xb mb rv sl es o) xb D key t w (.returned (.int .i64 0)) w') := fun w' l' h2 h3 => ⟨rfl, l', h2, h3⟩
  rcases mlook_entries es key with ⟨h1, h2, h3⟩ | ⟨i, e, hi, hk, h1, h2⟩
  · have hlD : mlook D key = none := by rw [mlook_perm hD hn]; exact h2
    have hlm : mlook m key = none := by rw [mlook_perm hp hmn]; exact h1
    rw [h1] at hlk
    simp only [Option.getD_none, Option.isSome_none] at hlk
    obtain ⟨S1, _⟩ : ∃ S : Step w (ExpHp xb mb rv sl es o) (w.alloc (.cells #[.int .i64 t, .string key, .int .i64 0] 239)) ((w.heap.size, .cells #[.int .i64 t, .string key, .int .i64 0] 239) :: ExpHp xb mb rv sl es o), True := ⟨(Step.refl ho).alloc _, trivial⟩
    have hmb1 : (w.alloc (.cells #[.int .i64 t, .string key, .int .i64 0] 239)).heap[mb]? = some o := S1.own.tail.right.head
    have c1a : (w.alloc (.cells #[.int .i64 t, .string key, .int .i64 0] 239)).cell? ⟨xb, 1, none⟩ = some (.map (some mb)) := cells_get S1.own.tail.head 1
    obtain ⟨o', hup, hm'⟩ := run_put (P := Tryz.prog) (t := 104) Tryz.underlying104 Tryz.underlying9 hmb1 hm hmn key (ptr' w.heap.size)
    obtain ⟨w2, hw2⟩ : ∃ w2 : World, w2 = { (w.alloc (.cells #[.int .i64 t, .string key, .int .i64 0] 239)) with heap := (w.alloc (.cells #[.int .i64 t, .string key, .int .i64 0] 239)).heap.setIfInBounds mb o' } := ⟨_, rfl⟩
    rw [← hw2] at hup
    have S2 : Step w (ExpHp xb mb rv sl es o) w2 ((w.heap.size, .cells #[.int .i64 t, .string key, .int .i64 0] 239) :: (HeapHp xb mb rv sl es ++ [(mb, o')])) := by
      have h1 := (S1.permR (l2 := (mb, o) :: ((w.heap.size, .cells #[.int .i64 t, .string key, .int .i64 0] 239) :: HeapHp xb mb rv sl es)) (by
        rw [ExpHp, ← List.cons_append]; exact List.perm_append_comm)).obj hw2
      exact h1.permR (by rw [← List.cons_append]; exact List.perm_append_comm (l₁ := [_]))
    have hpush := hid (hpush_any S2 hat (by omega))
    have hxlt := block_lt ho.head
    have hfin : Hid (∀ w', HeapNow w (ExpHp xb mb rv sl es o) xb mb [(mb, o')] (es ++ [⟨w.heap.size, t, key⟩]) w' → ∃ l', IsExpiry l' xb (mput D key t) ∧ Step w (ExpHp xb mb rv sl es o) w' l') := by
      rintro w' ⟨rv', sl', es', hp', hat', hS'⟩
      refine ⟨_, ⟨mb, o', rv', sl', es', _, rfl, hat', hm', ?_, ?_, mput_keys hn⟩, hS'⟩
      · rw [mput, hlm]
        simp only [Option.isSome_none, Bool.false_eq_true, if_false]
        refine (hp.append_right _).trans ?_
        refine List.Perm.trans ?_ (hp'.map enKP).symm
        exact List.Perm.of_eq (by simp [enKP])
      · rw [mput, hlD]
        simp only [Option.isSome_none, Bool.false_eq_true, if_false]
        refine (hD.append_right _).trans ?_
        refine List.Perm.trans ?_ (hp'.map enKT).symm
        exact List.Perm.of_eq (by simp [enKT])
    clear h1 h2 h3 hp hD hn hm hat ho hmn hlenD hB hlD hlm hmb1 hw2 S1 S2 hm'
    go_enter Tryz.func152, Tryz.ntmps152
    go_wp2_with fail
    refine hpush.out.mono ?_
    rintro en w3 ⟨rfl, hnow⟩
    obtain ⟨l', hX', hS'⟩ := hfin.out _ hnow
    replace hX' := hid hX'
    replace hS' := hid hS'
    clear hnow hfin
    go_wp2_with fail
    go_ret
    exact hpost.out _ _ hX'.out hS'.out
  · rw [h1] at hlk
    simp only [Option.getD_some, Option.isSome_some] at hlk
    have hil := (List.getElem?_eq_some_iff.1 hi).1
    have he : w.heap[e.b]? = some (EnObj e i) := by
      have := ent_at (r1 := (xb, ExpObj rv mb) :: sl) (r2 := [(mb, o)]) (i := i) (by simpa [ExpHp, HeapHp] using ho) hil
      rwa [(List.getElem?_eq_some_iff.1 hi).2] at this
    have e0 : w.cell? ⟨e.b, 0, none⟩ = some (.int .i64 e.t) := cells_get he 0
    have e2 : w.cell? ⟨e.b, 2, none⟩ = some (.int .i64 i) := cells_get he 2
    have f0 : w.frozen? ⟨e.b, 0, none⟩ = false := cells_free he 0
    obtain ⟨hat2, S2⟩ := heap_time (r := [(mb, o)]) (Step.refl ho) hat hi t
    have hfix := hid (hfix_any (i := i) S2.drew hat2 (by simpa using hil) (by simp; omega))
    have he2 : (w.setCell ⟨e.b, 0, none⟩ (.int .i64 t)).heap[e.b]? = some (EnObj ⟨e.b, t, e.key⟩ i) := by
      have := ent_at (r1 := (xb, ExpObj rv mb) :: sl) (r2 := [(mb, o)]) (i := i) (by simpa [ExpHp, HeapHp] using S2.own) (by simpa using hil)
      simpa using this
    have e2b := cells_get he2 2
    simp only [List.getElem?_toArray, List.getElem?_cons_succ, List.getElem?_cons_zero] at e2b
    have hlD : mlook D key = some e.t := by rw [mlook_perm hD hn]; exact h2
    have hfin : Hid (∀ w', HeapNow w (ExpHp xb mb rv sl es o) xb mb [(mb, o)] (es.set i ⟨e.b, t, e.key⟩) w' → ∃ l', IsExpiry l' xb (mput D key t) ∧ Step w (ExpHp xb mb rv sl es o) w' l') := by
      rintro w' ⟨rv', sl', es', hp', hat', hS'⟩
      subst hk
      have hen := (List.getElem?_eq_some_iff.1 hi).2
      refine ⟨_, ⟨mb, o, rv', sl', es', m, rfl, hat', hm, ?_, ?_, mput_keys hn⟩, hS'⟩
      · refine hp.trans (List.Perm.trans ?_ (hp'.map enKP).symm)
        refine List.Perm.of_eq ?_
        apply List.ext_getElem?
        intro j
        simp only [List.getElem?_map, List.getElem?_set]
        by_cases hij : i = j
        · subst hij
          rw [if_pos rfl, if_pos hil, hi]
          rfl
        · rw [if_neg hij]
      · rw [mput, hlD]
        simp only [Option.isSome_some, if_true]
        refine (mset_perm hD _ _).trans (List.Perm.trans ?_ (hp'.map enKT).symm)
        have hnk : ((es.map enKT).map Prod.fst).Nodup := (hD.map Prod.fst).nodup_iff.1 hn
        rw [mset_at hnk (by simpa using hil) (by simp [enKT, hen])]
        refine List.Perm.of_eq ?_
        rw [List.map_set]
        rfl
    clear h1 h2 hp hD hn hm hat ho hi hil he hmn hlenD hB hlD hat2 S2 hk he2
    go_enter Tryz.func152, Tryz.ntmps152
    go_wp2_with fail
    generalize w.setCell ⟨e.b, 0, none⟩ (.int .i64 t) = w2 at hfix e2b ⊢
    go_still_tail 8, (by kernel_rfl)
    go_wp2_with fail
    refine hfix.out.mono ?_
    rintro en w3 ⟨rfl, hnow⟩
    obtain ⟨l', hX', hS'⟩ := hfin.out _ hnow
    replace hX' := hid hX'
    replace hS' := hid hS'
    clear hnow hfin
    go_wp2_with fail
    go_ret
    exact hpost.out _ _ hX'.out hS'.out

end Go.Proofs.YthfngplckbggpaaGreatDoor
