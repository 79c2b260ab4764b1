/-
  nearhandlaw19: FieldsBack, the walk.
-/
import Derived.Test.YtkmjlpmepggciaaGreatDoorPFSpec
import Derived.Deep.LoopGhost
set_option linter.unusedVariables false
set_option linter.unusedSimpArgs false
namespace Go.Proofs.YtkmjlpmepggciaaGreatDoor
open Go Go.RowKit

/-- Where the names lie. -/
def NamesAt (w : World) (a : Option Addr) (names : List ByteArray) : Prop := 0 < names.length → ∃ g off, a = some ⟨g, off, none⟩ ∧ ∀ i s, names[i]? = some s → w.cell? ⟨g, off + i, none⟩ = some (.string s)
theorem NamesAt.step {w0 w' : World} {r : Hp} {a : Option Addr} {names : List ByteArray} (h : NamesAt w0 a names) (hb : ∀ g off, a = some ⟨g, off, none⟩ → g < w0.heap.size) (hS : Step w0 [] w' r) : NamesAt w' a names := by
  intro h0
  obtain ⟨g, off, rfl, hc⟩ := h h0
  have e : w'.heap[g]? = w0.heap[g]? := hS.same g (hb g off rfl) (by simp [keys])
  refine ⟨g, off, rfl, fun i s hi => ?_⟩
  have := hc i s hi
  simpa only [World.cell?, e] using this

theorem allOf_at : ∀ (fs : Fs) (j : Nat) (f : ByteArray × ByteArray), fs[j]? = some f → (allOf fs)[2 * j]? = some (lfText f.1) ∧ (allOf fs)[2 * j + 1]? = some (lfText f.2)
  | [], _, _, h => by simp at h
  | g :: fs, 0, f, h => by simp at h; subst h; exact ⟨rfl, rfl⟩
  | g :: fs, j + 1, f, h => by
    have := allOf_at fs j f (by simpa using h)
    simpa only [allOf, Nat.mul_add, Nat.mul_one, List.getElem?_cons_succ, show 2 * j + 2 + 1 = (2 * j + 1) + 1 + 1 from rfl, show 2 * j + 2 = (2 * j) + 1 + 1 from rfl] using this

theorem fresh_next {l : List ByteArray} {m nm : ByteArray} {j : Nat} {fb : Bool} (hm : l[j]? = some m) (h : fb = !among (l.take j) nm) : (fb && !(m.toList == nm.toList)) = !among (l.take (j + 1)) nm := by
  have e : l.take (j + 1) = l.take j ++ [m] := by rw [List.take_add_one, hm]; rfl
  have hb : (m.toList == nm.toList) = decide (m = nm) := by
    by_cases hh : m = nm
    · subst hh; simp
    · have : m.toList ≠ nm.toList := fun h => hh (by
        rw [ByteArray.toList_eq, ByteArray.toList_eq] at h
        exact Go.WideShapes.bytes_inj h)
      simp [hh, this]
  rw [h, e, hb]
  simp [among, List.any_append]

/-- Behind so many names: the store, and how many fields. -/
structure FInv (w0 wr : World) (r : Hp) (sb : Nat) (names : List ByteArray) (text : ByteArray) (k : Nat) (M : Int) (ev : List (Int × ByteArray)) (l : Hp) : Prop where
  st : Step w0 [] wr (l ++ r)
  is : IsStore l sb (hst (fputs (names.take k) text) ev)
  ev : ev.length = k
  many : M = ((fputs (names.take k) text).length : Int)
  small : ∀ x ∈ names.take k, x.size ≤ 500
theorem fputs_20 {names : List ByteArray} {text : ByteArray} {k : Nat} (h : ∀ x ∈ names.take k, x.size ≤ 500) (hts : text.size ≤ 500) (hk : k ≤ 20) : HFit 20 (fputs (names.take k) text) := by
  refine (fputs_fit text hts (names.take k) h 0 [] (HFit.nil 0)).mono ?_
  rw [List.length_take]; omega

/-- Behind all names, so many of which are taken out. -/
structure DInv (w0 wr : World) (r : Hp) (sb : Nat) (fs : Fs) (names : List ByteArray) (k : Nat) (ev : List (Int × ByteArray)) (l : Hp) : Prop where
  st : Step w0 [] wr (l ++ r)
  is : IsStore l sb (hst (fdels fs (names.take k)) ev)
  ev : ev.length ≤ 20 + k

theorem lfs_formF {a : Option Addr} {k c : Nat} {xs : List Lf} {vl : Hp} (h : IsLfs (.slice a k c) xs vl) (h0 : 0 < xs.length) : ∃ g rest, a = some ⟨g, 0, none⟩ ∧ vl = [(g, .cells (lfCells xs ++ rest).toArray 29 (0, 0))] := by
  obtain ⟨n, hn⟩ : ∃ n, n = xs.length := ⟨_, rfl⟩
  obtain ⟨ys, hy⟩ : ∃ ys, ys = lfCells xs := ⟨_, rfl⟩
  obtain ⟨v, hv⟩ : ∃ v, v = Value.slice a k c := ⟨_, rfl⟩
  unfold IsLfs at h
  rw [← hn, ← hy, ← hv] at h
  cases h with
  | nil => omega
  | laid g n cap xs rest h1 h2 h3 h4 =>
    simp only [Value.slice.injEq] at hv
    subst hy
    exact ⟨g, rest, hv.1.symm, rfl⟩

set_option maxRecDepth 100000 in
set_option maxHeartbeats 8000000 in
theorem lawFields_any {w0 w : World} {r : Hp} (hS : Step w0 [] w r) (hG : Glob w0) (names : List ByteArray) (text : ByteArray) (a : Option Addr) (n cap : Nat) (hn : names.length = n) (hcap : n ≤ cap) (hcap2 : cap ≤ 9223372036854775807)
    (hA : 0 < n → ∃ g off, a = some ⟨g, off, none⟩ ∧ g < w0.heap.size ∧ ∀ i s, names[i]? = some s → w0.cell? ⟨g, off + i, none⟩ = some (.string s)) :
    Calls Tryz.prog 3 #[.slice a n cap, .string text] w (fun e w' => e = .returned (.bool true) ∧ Step w0 [] w' r) := by
  have halive := hid (falive_any hS hG)
  replace hG := hid hG
  have hat : Hid (∀ (w' : World) (x : Hp), Step w0 [] w' x → NamesAt w' a names) := hid fun w' x h h0 => by
    obtain ⟨g, off, rfl, hb, hc⟩ := hA (by rw [← hn]; exact h0)
    exact NamesAt.step (fun _ => ⟨g, off, rfl, hc⟩) (fun g' off' e => by simp only [Option.some.injEq, Addr.mk.injEq] at e; obtain ⟨rfl, rfl, _⟩ := e; exact hb) h h0
  replace hn := hid hn
  clear hA hS
  go_enter Tryz.func3, Tryz.ntmps3
  go_wp2_with fail
  refine halive.out.mono ?_
  rintro e w0' ⟨rfl, S0⟩
  clear halive
  replace S0 := hid S0
  by_cases e1 : 20 < n
  · have e2 : (20 : Int) < (n : Int) := by omega
    go_wp2_with fail
    go_ret
    exact ⟨rfl, S0.out⟩
  have e2 : ¬ (20 : Int) < (n : Int) := by omega
  by_cases e3 : 500 < text.size
  · have e4 : (500 : Int) < (text.size : Int) := by omega
    go_wp2_with fail
    go_ret
    exact ⟨rfl, S0.out⟩
  have e4 : ¬ (500 : Int) < (text.size : Int) := by omega
  have hts : text.size ≤ 500 := by omega
  have hnb : n ≤ 20 := by omega
  have hnew := hid (snew_any S0.out 1000000)
  clear S0 e1 e3
  go_wp2_with fail
  refine hnew.out.mono ?_
  rintro e w1 ⟨sb, l1, rfl, hX1, S1⟩
  rw [hst_new] at hX1
  clear hnew
  replace S1 := hid S1
  replace hX1 := hid hX1
  go_wp2_with fail
  have I0 : Hid (FInv w0 w1 r sb names text 0 0 [] l1) := hid ⟨S1.out, hX1.out, rfl, rfl, fun x hx => by simp at hx⟩
  clear S1 hX1
  go_loopg [6, 7, 8, 9, 11, 12, 13, 14, 15, 16, 17, 38] n (fun gh s6 s7 s8 s9 s11 s12 s13 s14 s15 s16 s17 s38 wr => ∃ (k : Nat) (M : Int) (ev : List (Int × ByteArray)) (l : Hp), s6 = .int .i64 M ∧ s38 = .int .i64 k ∧ k ≤ n ∧ gh = n - k ∧ (0 ≤ M ∧ M ≤ 20) ∧ Hid (FInv w0 wr r sb names text k M ev l))
  case atStart => exact ⟨0, 0, [], l1, rfl, rfl, Nat.zero_le _, rfl, by decide, I0⟩
  case round =>
    obtain ⟨k, M, ev, l, rfl, rfl, hk, rfl, hM, I⟩ := hrel
    clear I0
    by_cases hlt : k < n
    · obtain ⟨nm, hnm⟩ : ∃ nm, names[k]? = some nm := ⟨names[k]'(by rw [hn.out]; exact hlt), List.getElem?_eq_getElem _⟩
      have h0 : Hid (0 < names.length) := hid (by rw [hn.out]; omega)
      obtain ⟨g, off, rfl, hc⟩ := hat.out wr _ I.out.st h0.out
      have cn : wr.cell? ⟨g, off + k, none⟩ = some (.string nm) := hc k nm hnm
      have hlt2 : (k : Int) < (n : Int) := by omega
      have hkc : (k : Int) ≤ (cap : Int) := by omega
      have hk0 : (0 : Int) ≤ (k : Int) := by omega
      have hcz : ¬ cap = 0 := by omega
      clear hc
      replace hnm := hid hnm
      by_cases e5 : 500 < nm.size
      · have e6 : (500 : Int) < (nm.size : Int) := by omega
        have S9 := hid (I.out.st.less (List.sublist_append_right _ _))
        go_wp2_with fail
        go_ret
        exact ⟨rfl, S9.out⟩
      have e6 : ¬ (500 : Int) < (nm.size : Int) := by omega
      have e7 : nm.size ≤ 500 := by omega
      clear e5
      have J0 : Hid (Step w0 [] wr (l ++ r)) := hid I.out.st
      obtain ⟨wo, rfl⟩ : ∃ wo : World, wo = wr := ⟨_, rfl⟩
      go_wp2_with fail
      clear cn
      go_loopg [9, 11, 50] k (fun gi s9 s11 s50 wi => ∃ (j : Nat) (fb : Bool), s9 = .bool fb ∧ s50 = .int .i64 j ∧ j ≤ k ∧ gi = k - j ∧ Hid (fb = !among (names.take j) nm) ∧ Hid (Step w0 [] wi (l ++ r)))
      case atStart => exact ⟨0, true, rfl, rfl, Nat.zero_le _, rfl, hid rfl, J0⟩
      case round =>
        obtain ⟨j, fb, rfl, rfl, hj, rfl, hfb, Si⟩ := hrel
        clear J0
        by_cases hjk : j < k
        · obtain ⟨m, hmj⟩ : ∃ m, names[j]? = some m := ⟨names[j]'(by rw [hn.out]; omega), List.getElem?_eq_getElem _⟩
          obtain ⟨g', off', he, hc⟩ := hat.out wr _ Si.out h0.out
          simp only [Option.some.injEq, Addr.mk.injEq, and_true] at he
          obtain ⟨rfl, rfl⟩ := he
          have cm : wr.cell? ⟨g, off + j, none⟩ = some (.string m) := hc j m hmj
          have hjk2 : (j : Int) < (k : Int) := by omega
          have hnext := hid (fresh_next hmj hfb.out)
          clear hc
          replace hmj := hid hmj
          generalize hq : (m.toList == nm.toList) = q at hnext
          cases fb
          all_goals (
            go_wp2_with fail
            go_roundg (k - (j + 1))
            case measure => omega
            case rel => exact ⟨j + 1, _, rfl, rfl, hjk, rfl, hid (by simpa using hnext.out), Si⟩)
        · obtain rfl : k = j := by omega
          have hev := I.out.ev
          have hfit := fputs_20 I.out.small hts (by omega : k ≤ 20)
          have htk : names.take (k + 1) = names.take k ++ [nm] := by rw [List.take_add_one, hnm.out]; rfl
          have hsm : Hid (∀ x ∈ names.take (k + 1), x.size ≤ 500) := hid (by
            rw [htk]
            intro x hx
            rcases List.mem_append.1 hx with hx | hx
            · exact I.out.small x hx
            · simp only [List.mem_cons, List.not_mem_nil, or_false] at hx
              subst hx; exact e7)
          have hfs : fputs (names.take (k + 1)) text = fput (fputs (names.take k) text) nm text := by rw [htk, fputs_snoc]
          have hfit2 : HFit 20 (fput (fputs (names.take k) text) nm text) := by rw [← hfs]; exact fputs_20 hsm.out hts (by omega)
          have hhas : has (fputs (names.take k) text) nm = !fb := by rw [fputs_has, hfb.out, Bool.not_not]
          obtain ⟨dv, hdv⟩ : ∃ dv : Int, dv = if has (fputs (names.take k) text) nm then 0 else 1 := ⟨_, rfl⟩
          have hset := fcall_HSET Si.out hG.out I.out.is hfit hfit2 (by omega) e7 hts
          rw [← hdv] at hset
          have hd1 : (dv == 1) = fb := by rw [hdv, hhas]; cases fb <;> rfl
          have hd3 : decide (dv = 1) = fb := by rw [← hd1]; rfl
          have hd2 : 0 ≤ dv ∧ dv ≤ 1 := by rw [hdv]; split <;> decide
          have hM2 : ((fput (fputs (names.take k) text) nm text).length : Int) = M + dv := by rw [len_fput, hdv, I.out.many]; split <;> simp
          have hM3 : 0 ≤ M + dv ∧ M + dv ≤ 20 := by have := hfit2.len; omega
          have hwr : IntKind.i64.wrap (M + dv) = M + dv := by simp [IntKind.wrap, IntKind.bits, IntKind.signed]; omega
          obtain ⟨fs, hfsn⟩ : ∃ fs, fs = fputs (names.take k) text := ⟨_, rfl⟩
          rw [← hfsn] at hset hfit hfit2 hM2 hfs
          replace hset := hid hset
          replace hfit := hid hfit
          replace hfit2 := hid hfit2
          replace hM2 := hid hM2
          replace hfs := hid hfs
          clear hhas hdv htk I hfsn
          go_wp2_with fail
          refine hset.out.mono ?_
          rintro e w2 ⟨sa, sc, l2, rfl, hX2, S2⟩
          clear hset Si hfb
          go_upto_region 19 with fail
          replace S2 := S2.keepLf (VObj 3 ByteArray.empty dv sa 0 sc)
          generalize hw3 : w2.alloc _ = w3 at S2 ⊢
          clear hw3
          generalize w2.heap.size = vb at S2 ⊢
          have hV := S2.own.right.head
          have v0 : w3.cell? ⟨vb, 0, none⟩ = some (.int .i64 3) := cells_get hV 0
          have v2 : w3.cell? ⟨vb, 2, none⟩ = some (.int .i64 dv) := cells_get hV 2
          have hget := hid (fcall_HGET S2 hG.out hX2 hfit2.out (by simp; omega) e7 (has_fput hfit.out.rise nm text) (fget_fput hfit.out.rise nm text))
          clear hV S2 hX2
          go_wp2_with fail
          refine hget.out.mono ?_
          rintro e w4 ⟨sa2, sc2, l3, rfl, hX3, S3⟩
          clear hget v0 v2 hd1 hd3 hwr
          go_upto_region 23 with fail
          replace S3 := S3.keepLf (VObj 4 text 0 sa2 0 sc2)
          generalize hw5 : w4.alloc _ = w5 at S3 ⊢
          clear hw5
          generalize w4.heap.size = ob at S3 ⊢
          have hlen := fcall_HLEN S3 hG.out hX3 hfit2.out (by simp; omega)
          rw [hM2.out] at hlen
          replace hlen := hid hlen
          clear S3 hX3
          go_wp2_with fail
          refine hlen.out.mono ?_
          rintro e w6 ⟨sa3, sc3, l4, rfl, hX4, S4⟩
          clear hlen
          go_upto_region 24 with fail
          replace S4 := S4.keepLf (VObj 3 ByteArray.empty (M + dv) sa3 0 sc3)
          generalize hw7 : w6.alloc _ = w7 at S4 ⊢
          clear hw7
          generalize w6.heap.size = zb at S4 ⊢
          have z2 : w7.cell? ⟨zb, 2, none⟩ = some (.int .i64 (M + dv)) := cells_get S4.own.right.head 2
          have o0 : w7.cell? ⟨ob, 0, none⟩ = some (.int .i64 4) := cells_get S4.own.right.tail.head 0
          have o1 : w7.cell? ⟨ob, 1, none⟩ = some (.string text) := cells_get S4.own.right.tail.head 1
          have S9 := S4.pick (l2 := l4 ++ r) (m := [(zb, VObj 3 ByteArray.empty (M + dv) sa3 0 sc3), (ob, VObj 4 text 0 sa2 0 sc2), (vb, VObj 3 ByteArray.empty dv sa 0 sc)]) (perm_by fun f => by
            simp only [List.map_append, List.sum_append, List.map_cons, List.sum_cons, List.map_nil, List.sum_nil]; omega)
          have I2 : Hid (FInv w0 w7 r sb names text (k + 1) (M + dv) (ev ++ [(1, kh)]) l4) := hid ⟨S9, by rw [hfs.out]; exact hX4, by simp; omega, by rw [hfs.out]; exact hM2.out.symm, hsm.out⟩
          clear S9 S4 hX4 hM2 hfs hsm hfit hfit2
          go_wp2_with fail
          go_roundg (n - (k + 1))
          case measure => omega
          case rel => exact ⟨k + 1, M + dv, _, l4, rfl, rfl, hlt, rfl, hM3, I2⟩
    · obtain rfl : k = n := by omega
      have hall : names.take k = names := List.take_of_length_le (by rw [hn.out]; omega)
      obtain ⟨st, hX, hev, hMany, hsm⟩ := I.out
      rw [hall] at hX hMany hsm
      have hfit : HFit 20 (fputs names text) := by have := fputs_20 (names := names) (text := text) (k := k) (by rw [hall]; exact hsm) hts (by omega); rwa [hall] at this
      obtain ⟨fs, hfs⟩ : ∃ fs, fs = fputs names text := ⟨_, rfl⟩
      rw [← hfs] at hX hMany hfit
      have hga := hid (fcall_HGETALL st hG.out hX hfit (by omega))
      replace hfs := hid hfs
      replace hMany := hid hMany
      replace hfit := hid hfit
      replace hsm := hid hsm
      replace hev := hid hev
      clear I st hX hall
      go_wp2_with fail
      refine hga.out.mono ?_
      rintro e w2 ⟨sa, sc, vl, l2, rfl, hxl, hX2, S2⟩
      obtain ⟨xl, hxn⟩ : ∃ xl, xl = (allOf fs).length := ⟨_, rfl⟩
      rw [← hxn] at hxl ⊢
      have hxf : xl = 2 * fs.length := by rw [hxn, allOf_len]
      have hx2 : (xl : Int) = 2 * M := by have := hMany.out; omega
      have hmul : IntKind.i64.wrap (2 * M) = 2 * M := by simp [IntKind.wrap, IntKind.bits, IntKind.signed]; omega
      replace hxn := hid hxn
      replace hxf := hid hxf
      replace hX2 := hid hX2
      replace hxl := hid hxl
      clear hga
      go_upto_region 28 with fail
      have S3 := S2.alloc (VObj 12 ByteArray.empty 0 sa xl sc)
      generalize hw3 : w2.alloc _ = w3 at S3 ⊢
      clear hw3 S2
      generalize w2.heap.size = ab at S3 ⊢
      have a0 : w3.cell? ⟨ab, 0, none⟩ = some (.int .i64 12) := cells_get S3.own.head 0
      have a5 : w3.cell? ⟨ab, 5, none⟩ = some (.slice sa xl sc) := cells_get S3.own.head 5
      replace S3 := hid S3
      go_upto_region 30 with fail
      clear a0 a5 hmul
      replace hx2 := hid hx2
      go_wp2_with fail
      go_loopg [20] xl (fun gi s20 wr => ∃ q : Nat, s20 = .int .i64 q ∧ Hid (∃ j, q = 2 * j + 2) ∧ gi = xl + 2 - q ∧ q ≤ xl + 2 ∧ Hid (Step w0 [] wr ((ab, VObj 12 ByteArray.empty 0 sa xl sc) :: (l2 ++ (vl ++ r)))))
      case atStart => exact ⟨2, rfl, hid ⟨0, rfl⟩, by omega, by omega, S3⟩
      case round =>
        obtain ⟨q, rfl, hqj, rfl, hq2, S4⟩ := hrel
        clear S3
        have a5 : wr.cell? ⟨ab, 5, none⟩ = some (.slice sa xl sc) := cells_get S4.out.own.head 5
        by_cases hq : q < xl
        · obtain ⟨j, hj⟩ := hqj.out
          have hjn : j + 1 < fs.length := by have := hxf.out; omega
          have hxb : xl ≤ 40 := by have := hxf.out; have := hfit.out.len; omega
          obtain ⟨f1, hf1⟩ : ∃ f, fs[j]? = some f := ⟨fs[j]'(by omega), List.getElem?_eq_getElem _⟩
          obtain ⟨f2, hf2⟩ : ∃ f, fs[j + 1]? = some f := ⟨fs[j + 1]'hjn, List.getElem?_eq_getElem _⟩
          have hless := ncmp_less (rise_lt hfit.out.rise (by omega : j < j + 1) hf1 hf2)
          obtain ⟨i2, hi2⟩ : ∃ i2, i2 = 2 * j := ⟨_, rfl⟩
          have hqi : q = 2 * (j + 1) := by omega
          have hx1 := (allOf_at fs j f1 hf1).1
          have hx3 := (allOf_at fs (j + 1) f2 hf2).1
          rw [← hi2] at hx1
          rw [← hqi] at hx3
          obtain ⟨g3, rest3, rfl, rfl⟩ := lfs_formF hxl.out (by have := hxf.out; rw [allOf_len]; omega)
          have hvb := S4.out.own.tail.right.left.head
          have b1 := (lfIn hvb hx1).c1
          have b2 := (lfIn hvb hx3).c1
          simp only [lfText] at b1 b2
          have hsub : IntKind.i64.wrap ((q : Int) - 2) = (i2 : Int) := by simp [IntKind.wrap, IntKind.bits, IntKind.signed]; omega
          have hq3 : (q : Int) < (xl : Int) := by omega
          have hi3 : (i2 : Int) < (xl : Int) := by omega
          have hi4 : (0 : Int) ≤ (i2 : Int) := by omega
          have hadd : IntKind.i64.wrap ((q : Int) + 2) = (q : Int) + 2 := by simp [IntKind.wrap, IntKind.bits, IntKind.signed]; omega
          have hqj2 : Hid (∃ j, q + 2 = 2 * j + 2) := hid ⟨j + 1, by omega⟩
          have hi5 : i2 < xl := by omega
          clear hvb hx1 hx3
          replace hqi := hid hqi
          replace hi2 := hid hi2
          replace hj := hid hj
          replace hf1 := hid hf1
          replace hf2 := hid hf2
          go_wp2_with fail
          go_big_quiet (fail)
          go_wp2_with fail
          go_roundg (xl + 2 - (q + 2))
          case measure => omega
          case rel => exact ⟨q + 2, rfl, hqj2, rfl, by omega, hid (S4.out.drewN _)⟩
        · have hq3 : ¬ (q : Int) < (xl : Int) := by omega
          have D0 : Hid (DInv w0 wr r sb fs names 0 ev l2) := hid ⟨S4.out.pick (l2 := l2 ++ r) (m := (ab, VObj 12 ByteArray.empty 0 sa xl sc) :: vl) (perm_by fun f => by
            simp only [List.map_append, List.sum_append, List.map_cons, List.sum_cons]; omega), hX2.out, by have := hev.out; omega⟩
          obtain ⟨wo, rfl⟩ : ∃ wo : World, wo = wr := ⟨_, rfl⟩
          clear S4
          go_wp2_with fail
          clear a5
          go_loopg [22, 23, 24, 152] k (fun gd s22 s23 s24 s152 wr => ∃ (d : Nat) (ev2 : List (Int × ByteArray)) (l3 : Hp), s152 = .int .i64 d ∧ d ≤ k ∧ gd = k - d ∧ Hid (DInv w0 wr r sb fs names d ev2 l3))
          case atStart => exact ⟨0, ev, l2, rfl, Nat.zero_le _, rfl, D0⟩
          case round =>
            obtain ⟨d, ev2, l3, rfl, hd, rfl, D⟩ := hrel
            clear D0
            by_cases hdk : d < k
            · obtain ⟨nm, hnm⟩ : ∃ nm, names[d]? = some nm := ⟨names[d]'(by rw [hn.out]; exact hdk), List.getElem?_eq_getElem _⟩
              obtain ⟨g, off, rfl, hc⟩ := hat.out wr _ D.out.st (by rw [hn.out]; omega)
              have cn : wr.cell? ⟨g, off + d, none⟩ = some (.string nm) := hc d nm hnm
              have hdk2 : (d : Int) < (k : Int) := by omega
              have e7 : nm.size ≤ 500 := hsm.out nm (List.mem_of_getElem? hnm)
              have hfd := fdels_fit (names.take d) fs hfit.out
              have hde := D.out.ev
              have htk : names.take (d + 1) = names.take d ++ [nm] := by rw [List.take_add_one, hnm]; rfl
              have hfs2 : Hid (fdels fs (names.take (d + 1)) = fdel (fdels fs (names.take d)) nm) := hid (by rw [htk, fdels_snoc])
              obtain ⟨ev3, dn, hev3, hdrop⟩ := hst_drop (fdels fs (names.take d)) ev2 hfd nm
              have hdel := hid (fcall_HDEL D.out.st hG.out D.out.is hfd (by omega) e7 hdrop)
              replace hfd := hid hfd
              clear hc hdrop D htk
              replace hnm := hid hnm
              go_wp2_with fail
              refine hdel.out.mono ?_
              rintro e w5 ⟨sa4, sc4, l4, rfl, hX4, S5⟩
              have hex := fcall_HEXISTS S5 hG.out hX4 (hfd.out.fdel nm) (by omega) e7
              rw [fdel_has hfd.out.rise, if_neg (by decide)] at hex
              replace hex := hid hex
              clear hdel S5 hX4 cn
              go_wp2_with fail
              refine hex.out.mono ?_
              rintro e w6 ⟨sa5, sc5, l5, rfl, hX5, S6⟩
              clear hex
              go_upto_region 40 with fail
              replace S6 := S6.keepLf (VObj 3 ByteArray.empty 0 sa5 0 sc5)
              generalize hw7 : w6.alloc _ = w7 at S6 ⊢
              clear hw7
              generalize w6.heap.size = xb at S6 ⊢
              have x0 : w7.cell? ⟨xb, 0, none⟩ = some (.int .i64 3) := cells_get S6.own.right.head 0
              have x2 : w7.cell? ⟨xb, 2, none⟩ = some (.int .i64 0) := cells_get S6.own.right.head 2
              have D2 : Hid (DInv w0 w7 r sb fs names (d + 1) ev3 l5) := hid ⟨S6.letGo, by rw [hfs2.out]; exact hX5, by omega⟩
              clear S6 hX5 hfs2
              go_wp2_with fail
              go_roundg (k - (d + 1))
              case measure => omega
              case rel => exact ⟨d + 1, ev3, l5, rfl, hdk, rfl, D2⟩
            · obtain rfl : k = d := by omega
              obtain ⟨st, hX, _⟩ := D.out
              have hall : names.take k = names := List.take_of_length_le (by rw [hn.out]; omega)
              rw [hall, hfs.out, fdels_all] at hX
              obtain ⟨mm, rfl, hok, _⟩ := hX
              have hM0 : mm.M.length = 0 := by rw [hok.len]; rfl
              have htl := tlen_any mm.tl mm.tb mm.M 0 wr hok.tab (SM.ownT st.own)
              rw [hM0] at htl
              replace htl := hid htl
              have t0 : wr.cell? ⟨sb, 0, none⟩ = some (ptr mm.tb) := (stCells st.own).c0
              have hdk2 : ¬ (k : Int) < (k : Int) := by omega
              replace st := hid st
              clear hok D hM0 hall
              go_wp2_with fail
              refine htl.out.mono ?_
              rintro e w5 ⟨rfl, nd, hw5⟩
              have S8 := st.out.drewN nd
              rw [← hw5] at S8
              have hby := bytes_any S8.own
              have S9 := hid (S8.less (List.sublist_append_right _ _))
              replace hby := hid hby
              clear hw5 htl t0 st S8
              go_wp2_with fail
              refine hby.out.mono ?_
              rintro e w6 ⟨rfl, rfl⟩
              clear hby
              have hz : bytesOf (hst [] ev2).L = 0 := rfl
              rw [hz]
              go_wp2_with fail
              go_ret
              exact ⟨rfl, S9.out⟩

end Go.Proofs.YtkmjlpmepggciaaGreatDoor
