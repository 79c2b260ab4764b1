/-
  fields.Do: HSET (printed by gen_fdo.py).
  fields.Do: HDEL (printed by gen_fdo.py).
  fields.Do: HGET (printed by gen_fdo.py).
  fields.Do: HLEN (printed by gen_fdo.py).
-/
import Derived.Test.YtkmjlpmepggciaaGreatDoorPFDoes
import Derived.Deep.RegionHeld3
import Derived.Deep.DeepCutAuto
import Derived.Deep.CutBlock
set_option linter.unusedVariables false
set_option linter.unusedSimpArgs false
namespace Go.Proofs.YtkmjlpmepggciaaGreatDoor
open Go Go.RowKit

set_option maxRecDepth 100000 in
set_option maxHeartbeats 4000000 in
theorem fdo_HSET {w0 w : World} {l r : Hp} {sb : Nat} {S : St} {g off : Nat} {c k : ByteArray} {ws : List ByteArray} (h : Ctx w0 w l r sb S g off (c :: k :: ws)) (sp : Sp) (hc : wcheck (c :: k :: ws) = (sp, ByteArray.empty)) (hm : mlook doesMap sp.name = some (fv 93)) (now : Int)
    (hkind : (((S.look k now).getD zeroItm).kind == 1) = false) (cap : Nat) (hcap : (c :: k :: ws).length < cap ∨ (c :: k :: ws).length = cap ∧ ws ≠ []) (hcap2 : cap ≤ 9223372036854775807) (T : St) (kd : Int) (tx : ByteArray) (nn : Int) (xs : List Lf)
    (hjob : ∀ (w' : World) (l2 vl R : Hp) (v : Value) (ar : Value), Step w0 [] w' (l2 ++ (vl ++ R)) → IsStore l2 sb (S.get k now) → IsFields v ((S.look k now).getD zeroItm).fs vl → Args w0 R g (off + 2) ws → ar = .slice (some ⟨g, off + 2, none⟩) ws.length (cap - 2) →
      Calls Tryz.prog 93 #[fjobVal sb ((S.look k now).getD zeroItm).kind ((S.look k now).getD zeroItm).text v now k ar] w' (FEnd w0 R sb T kd tx nn xs)) :
    Calls Tryz.prog 13 #[ptr sb, .int .i64 now, .slice (some ⟨g, off, none⟩) (c :: k :: ws).length cap] w (FDoEnd w0 r sb T kd tx nn xs) := by
  have H := h.alloc ZeroVal
  have hchk := check_some H.st (H.args.more (x := l)) cap
  rw [hc] at hchk
  clear hc
  unfold CheckPost Sp.val specVal at hchk
  simp only at hchk
  obtain ⟨n, hlen⟩ : ∃ n, (c :: k :: ws).length = n := ⟨_, rfl⟩
  have hlen2 : ws.length = n - 2 := by rw [← hlen]; simp only [List.length_cons]; omega
  rw [hlen] at hchk hcap ⊢
  have hn1 : 1 < n := by rw [← hlen]; simp only [List.length_cons]; omega
  have hn2 : (1 : Int) < (n : Int) := by omega
  have hn3 : 2 ≤ n := by omega
  have hn4 : (2 : Int) ≤ (n : Int) := by omega
  have hn5 : 0 < n := by omega
  have hcn : n ≤ cap := by omega
  have hc2 : ¬ cap - 2 = 0 := by
    rcases hcap with hcap | ⟨hcap, hne⟩
    · omega
    · have : 0 < ws.length := List.length_pos_iff.2 hne
      omega
  replace hlen := hid hlen
  replace hlen2 := hid hlen2
  replace hcap := hid hcap
  replace hchk := hid hchk
  replace hjob := hid hjob
  replace hm := hid hm
  replace h := hid h
  clear H
  go_enter Tryz.func13, Tryz.ntmps13
  go_wp2_with fail
  refine hchk.out.mono ?_
  rintro e w2 ⟨rfl, S2⟩
  clear hchk
  go_upto_region 2 with fail
  have S3 := S2.alloc (.cells #[.string sp.name, .int .i64 sp.kind, .int .i64 sp.least, .int .i64 sp.most, .int .i64 sp.first, .int .i64 sp.last, .int .i64 sp.step] 65)
  generalize hw3 : w2.alloc _ = w3
  replace S3 : Step w0 [] w3 _ := hw3 ▸ S3
  clear hw3 S2
  generalize w2.heap.size = b1 at S3 ⊢
  generalize w.heap.size = b at S3 ⊢
  obtain ⟨R, hR⟩ : ∃ R : Hp, R = (b1, .cells #[.string sp.name, .int .i64 sp.kind, .int .i64 sp.least, .int .i64 sp.most, .int .i64 sp.first, .int .i64 sp.last, .int .i64 sp.step] 65 (0, 0)) :: (b, ZeroVal) :: (l ++ r) := ⟨_, rfl⟩
  have S4 : Step w0 [] w3 R := S3.permR (perm_by fun f => by
    rw [hR]; simp only [List.map_append, List.sum_append, List.map_cons, List.sum_cons]; omega)
  have hsm : (b1, .cells #[.string sp.name, .int .i64 sp.kind, .int .i64 sp.least, .int .i64 sp.most, .int .i64 sp.first, .int .i64 sp.last, .int .i64 sp.step] 65 (0, 0)) ∈ R := by rw [hR]; simp
  have hdoes : ∀ w', Hid (Step w0 [] w' R → _) := fun w' => hid fun hw => does_any hw
  have hs1 : Hid (Step w0 [] w3.drew R) := hid S4.drew
  have hx1 : Hid (InX w0 R w3.drew) := hid ⟨[], S4.drew⟩
  have hkeep : Hid (∀ w', Hid (InX w0 R w') → w'.cell? ⟨b1, 0, none⟩ = some (.string sp.name) ∧ Hid (InX w0 R w')) := hid fun w' hx => ⟨cells_get (InX.get hx hsm) 0, hx⟩
  have hzero : ∀ w', (zeroValue 96).run Tryz.prog w' = .ok .nilFunc w' := fun w' => by kernel_rfl
  clear S3 S4 hsm
  go_cut [10, 11] (fun s10 s11 wc => s10 = fv 93 ∧ s11 = .bool true ∧ Hid (Step w0 [] wc R))
  case first =>
    go_region_held3 (fun w' => w'.cell? ⟨b1, 0, none⟩ = some (.string sp.name) ∧ Hid (InX w0 R w'))
      (first | (with_reducible exact hkeep.out _ hx1) | (with_reducible exact hkeep.out _ (by assumption)) | (fail "keep"))
      (first | (go_at_call 41; refine ((hdoes _).out hs1.out).mono ?_; rintro e w4 ⟨mb, o, rfl, hso, S5⟩; have hlk := run_look (P := Tryz.prog) (t := 98) Tryz.underlying98 Tryz.underlying9 hzero S5.own.head hso sp.name; rw [hm.out] at hlk; have hx2 : Hid (InX w0 R w4) := hid ⟨[(mb, o)], S5⟩; have S6 := hid (S5.less (List.sublist_cons_self _ _)); clear S5 hso))
    all_goals (
      go_wp2_with fail
      go_meet
      exact ⟨rfl, rfl, S6⟩)
  case rest =>
    obtain ⟨rfl, rfl, S5⟩ := hcut
    clear hdoes hs1 hx1 hkeep hzero
    obtain ⟨X, hX⟩ : ∃ X : Hp, X = [(b1, .cells #[.string sp.name, .int .i64 sp.kind, .int .i64 sp.least, .int .i64 sp.most, .int .i64 sp.first, .int .i64 sp.last, .int .i64 sp.step] 65 (0, 0)), (b, ZeroVal)] := ⟨_, rfl⟩
    have S6 : Step w0 [] wc (l ++ (X ++ r)) := S5.out.permR (perm_by fun f => by
      rw [hR, hX]; simp only [List.map_append, List.sum_append, List.map_cons, List.sum_cons, List.map_nil, List.sum_nil]; omega)
    have C := h.out.at (x := X) rfl S6
    obtain ⟨o, ho⟩ : ∃ o, o = (S.look k now).getD zeroItm := ⟨_, rfl⟩
    have hget := C.get k (by simp) now [] S6
    have ca : wc.cell? ⟨g, off + 1, none⟩ = some (.string k) := C.args.at_ wc l S6 1 k rfl
    rw [← ho] at hget hkind hjob
    obtain ⟨kq, tq, fq⟩ := o
    simp only at hget hkind hjob
    have harg := hid C.args
    have hag : Hid (Args w0 (X ++ r) g (off + 2) ws) := hid (C.args.drop 2)
    replace hget := hid hget
    replace ho := hid ho
    replace hX := hid hX
    clear S5 S6 C hR h
    unfold fv
    go_wp2_with fail
    refine hget.out.mono ?_
    rintro e w5 ⟨va, vn, vc, vl, l2, rfl, hat, hX2, S7, _⟩
    clear hget ca
    go_upto_region 6 with fail
    have S8 := S7.out.alloc (ItemObj kq tq (.slice va vn vc))
    generalize hw6 : w5.alloc _ = w6
    replace S8 : Step w0 [] w6 _ := hw6 ▸ S8
    clear hw6 S7
    generalize w5.heap.size = ib at S8 ⊢
    obtain ⟨L, hL⟩ : ∃ L : Hp, L = l2 ++ (vl ++ ((ib, ItemObj kq tq (.slice va vn vc)) :: (X ++ r))) := ⟨_, rfl⟩
    have S9 : Step w0 [] w6 L := S8.permR (perm_by fun f => by
      rw [hL]; simp only [List.map_append, List.sum_append, List.map_cons, List.sum_cons, List.map_nil, List.sum_nil]; omega)
    have him : (ib, ItemObj kq tq (.slice va vn vc)) ∈ L := by rw [hL]; simp
    have i0 : ∀ p : InW w0 [] L, p.w.cell? ⟨ib, 0, none⟩ = some (.int .i64 kq) := fun p => cells_get (p.h.own.at_ (ib, ItemObj kq tq (.slice va vn vc)) him) 0
    have i1 : ∀ p : InW w0 [] L, p.w.cell? ⟨ib, 1, none⟩ = some (.string tq) := fun p => cells_get (p.h.own.at_ (ib, ItemObj kq tq (.slice va vn vc)) him) 1
    have i2 : ∀ p : InW w0 [] L, p.w.cell? ⟨ib, 2, none⟩ = some (.slice va vn vc) := fun p => cells_get (p.h.own.at_ (ib, ItemObj kq tq (.slice va vn vc)) him) 2
    have i0' := i0 ⟨w6, S9⟩
    simp only at i0'
    have hsplit : ∀ w', Step w0 [] w' L → Step w0 [] w' ((l2 ++ (vl ++ [(ib, ItemObj kq tq (.slice va vn vc))])) ++ (X ++ r)) := fun w' h => by
      rw [hL] at h; simpa using h
    have ja : ∀ p : InW w0 [] L, p.w.cell? ⟨g, off + 1, none⟩ = some (.string k) := fun p => harg.out.at_ p.w _ (hsplit p.w p.h) 1 k rfl
    clear S8
    replace S9 := hid S9
    replace hL := hid hL
    clear him hsplit harg
    go_wp2_with fail
    refine wp_region_tail 10 S9.out (by kernel_rfl) (by kernel_rfl) (fun hne => ?_)
    simp only [List.take_succ_cons, List.take_zero, List.drop_succ_cons, List.drop_zero]
    repeat (go_big_quiet_step (fail))
    refine tail_nil fun w7 S10 => ?_
    clear i0 i1 i2 i0' ja hne S9
    rw [hL.out] at S10
    have hcall := hjob.out w7 l2 vl ((ib, ItemObj kq tq (.slice va vn vc)) :: (X ++ r)) (.slice va vn vc) _ S10 hX2.out hat.out (hag.out.more (x := [(ib, ItemObj kq tq (.slice va vn vc))])) rfl
    unfold fjobVal at hcall
    rw [hlen2.out] at hcall
    replace hcall := hid hcall
    clear S10 hjob
    go_wp2_with fail
    refine hcall.out.mono ?_
    rintro e w8 ⟨a, c2, xl, l3, rfl, hxl, hX3, S11⟩
    have S12 := S11.permR (l2 := (b, ZeroVal) :: (l3 ++ (xl ++ r) ++ [(ib, ItemObj kq tq (.slice va vn vc)), (b1, .cells #[.string sp.name, .int .i64 sp.kind, .int .i64 sp.least, .int .i64 sp.most, .int .i64 sp.first, .int .i64 sp.last, .int .i64 sp.step] 65 (0, 0))])) (perm_by fun f => by
      rw [hX.out]; simp only [List.map_append, List.sum_append, List.map_cons, List.sum_cons, List.map_nil, List.sum_nil]; omega)
    obtain ⟨⟨z0, hz0⟩, ⟨z1, hz1⟩, ⟨z2, hz2⟩, ⟨z3, hz3⟩, ⟨z4, hz4⟩, ⟨z5, hz5⟩, fz, hlt⟩ := cells6' S12.own.head
    obtain ⟨na, hna⟩ : ∃ na, na = xs.length := ⟨_, rfl⟩
    rw [← hna] at hxl ⊢
    have S13 := hid ((((((((S12.set 0 (.int .i64 kd)).set 1 (.string tx)).set 2 (.int .i64 nn)).set 3 (.float .f64 0)).set 4 (.bool false)).set 5 (.slice a na c2)).less (List.sublist_cons_self _ _)).less (List.sublist_append_left _ _))
    replace hna := hid hna
    replace hxl := hid hxl
    clear hcall S11 S12
    unfold ansVal
    go_wp2_with fail
    refine bodyPost_ret (v := .tuple #[ansVal kd tx nn (.slice a na c2), .bool true]) (by simp [results, Tryz.results13, go_sem, ansVal, *] <;> rfl) rfl ?_
    have q1 := hxl.out
    have q2 := S13.out
    rw [hna.out] at q1 q2 ⊢
    exact ⟨a, c2, xl, l3, rfl, q1, hX3, q2⟩

end Go.Proofs.YtkmjlpmepggciaaGreatDoor

namespace Go.Proofs.YtkmjlpmepggciaaGreatDoor
open Go Go.RowKit

set_option maxRecDepth 100000 in
set_option maxHeartbeats 4000000 in
theorem fdo_HDEL {w0 w : World} {l r : Hp} {sb : Nat} {S : St} {g off : Nat} {c k : ByteArray} {ws : List ByteArray} (h : Ctx w0 w l r sb S g off (c :: k :: ws)) (sp : Sp) (hc : wcheck (c :: k :: ws) = (sp, ByteArray.empty)) (hm : mlook doesMap sp.name = some (fv 97)) (now : Int)
    (hkind : (((S.look k now).getD zeroItm).kind == 1) = false) (cap : Nat) (hcap : (c :: k :: ws).length < cap ∨ (c :: k :: ws).length = cap ∧ ws ≠ []) (hcap2 : cap ≤ 9223372036854775807) (T : St) (kd : Int) (tx : ByteArray) (nn : Int) (xs : List Lf)
    (hjob : ∀ (w' : World) (l2 vl R : Hp) (v : Value) (ar : Value), Step w0 [] w' (l2 ++ (vl ++ R)) → IsStore l2 sb (S.get k now) → IsFields v ((S.look k now).getD zeroItm).fs vl → Args w0 R g (off + 2) ws → ar = .slice (some ⟨g, off + 2, none⟩) ws.length (cap - 2) →
      Calls Tryz.prog 97 #[fjobVal sb ((S.look k now).getD zeroItm).kind ((S.look k now).getD zeroItm).text v now k ar] w' (FEnd w0 R sb T kd tx nn xs)) :
    Calls Tryz.prog 13 #[ptr sb, .int .i64 now, .slice (some ⟨g, off, none⟩) (c :: k :: ws).length cap] w (FDoEnd w0 r sb T kd tx nn xs) := by
  have H := h.alloc ZeroVal
  have hchk := check_some H.st (H.args.more (x := l)) cap
  rw [hc] at hchk
  clear hc
  unfold CheckPost Sp.val specVal at hchk
  simp only at hchk
  obtain ⟨n, hlen⟩ : ∃ n, (c :: k :: ws).length = n := ⟨_, rfl⟩
  have hlen2 : ws.length = n - 2 := by rw [← hlen]; simp only [List.length_cons]; omega
  rw [hlen] at hchk hcap ⊢
  have hn1 : 1 < n := by rw [← hlen]; simp only [List.length_cons]; omega
  have hn2 : (1 : Int) < (n : Int) := by omega
  have hn3 : 2 ≤ n := by omega
  have hn4 : (2 : Int) ≤ (n : Int) := by omega
  have hn5 : 0 < n := by omega
  have hcn : n ≤ cap := by omega
  have hc2 : ¬ cap - 2 = 0 := by
    rcases hcap with hcap | ⟨hcap, hne⟩
    · omega
    · have : 0 < ws.length := List.length_pos_iff.2 hne
      omega
  replace hlen := hid hlen
  replace hlen2 := hid hlen2
  replace hcap := hid hcap
  replace hchk := hid hchk
  replace hjob := hid hjob
  replace hm := hid hm
  replace h := hid h
  clear H
  go_enter Tryz.func13, Tryz.ntmps13
  go_wp2_with fail
  refine hchk.out.mono ?_
  rintro e w2 ⟨rfl, S2⟩
  clear hchk
  go_upto_region 2 with fail
  have S3 := S2.alloc (.cells #[.string sp.name, .int .i64 sp.kind, .int .i64 sp.least, .int .i64 sp.most, .int .i64 sp.first, .int .i64 sp.last, .int .i64 sp.step] 65)
  generalize hw3 : w2.alloc _ = w3
  replace S3 : Step w0 [] w3 _ := hw3 ▸ S3
  clear hw3 S2
  generalize w2.heap.size = b1 at S3 ⊢
  generalize w.heap.size = b at S3 ⊢
  obtain ⟨R, hR⟩ : ∃ R : Hp, R = (b1, .cells #[.string sp.name, .int .i64 sp.kind, .int .i64 sp.least, .int .i64 sp.most, .int .i64 sp.first, .int .i64 sp.last, .int .i64 sp.step] 65 (0, 0)) :: (b, ZeroVal) :: (l ++ r) := ⟨_, rfl⟩
  have S4 : Step w0 [] w3 R := S3.permR (perm_by fun f => by
    rw [hR]; simp only [List.map_append, List.sum_append, List.map_cons, List.sum_cons]; omega)
  have hsm : (b1, .cells #[.string sp.name, .int .i64 sp.kind, .int .i64 sp.least, .int .i64 sp.most, .int .i64 sp.first, .int .i64 sp.last, .int .i64 sp.step] 65 (0, 0)) ∈ R := by rw [hR]; simp
  have hdoes : ∀ w', Hid (Step w0 [] w' R → _) := fun w' => hid fun hw => does_any hw
  have hs1 : Hid (Step w0 [] w3.drew R) := hid S4.drew
  have hx1 : Hid (InX w0 R w3.drew) := hid ⟨[], S4.drew⟩
  have hkeep : Hid (∀ w', Hid (InX w0 R w') → w'.cell? ⟨b1, 0, none⟩ = some (.string sp.name) ∧ Hid (InX w0 R w')) := hid fun w' hx => ⟨cells_get (InX.get hx hsm) 0, hx⟩
  have hzero : ∀ w', (zeroValue 96).run Tryz.prog w' = .ok .nilFunc w' := fun w' => by kernel_rfl
  clear S3 S4 hsm
  go_cut [10, 11] (fun s10 s11 wc => s10 = fv 97 ∧ s11 = .bool true ∧ Hid (Step w0 [] wc R))
  case first =>
    go_region_held3 (fun w' => w'.cell? ⟨b1, 0, none⟩ = some (.string sp.name) ∧ Hid (InX w0 R w'))
      (first | (with_reducible exact hkeep.out _ hx1) | (with_reducible exact hkeep.out _ (by assumption)) | (fail "keep"))
      (first | (go_at_call 41; refine ((hdoes _).out hs1.out).mono ?_; rintro e w4 ⟨mb, o, rfl, hso, S5⟩; have hlk := run_look (P := Tryz.prog) (t := 98) Tryz.underlying98 Tryz.underlying9 hzero S5.own.head hso sp.name; rw [hm.out] at hlk; have hx2 : Hid (InX w0 R w4) := hid ⟨[(mb, o)], S5⟩; have S6 := hid (S5.less (List.sublist_cons_self _ _)); clear S5 hso))
    all_goals (
      go_wp2_with fail
      go_meet
      exact ⟨rfl, rfl, S6⟩)
  case rest =>
    obtain ⟨rfl, rfl, S5⟩ := hcut
    clear hdoes hs1 hx1 hkeep hzero
    obtain ⟨X, hX⟩ : ∃ X : Hp, X = [(b1, .cells #[.string sp.name, .int .i64 sp.kind, .int .i64 sp.least, .int .i64 sp.most, .int .i64 sp.first, .int .i64 sp.last, .int .i64 sp.step] 65 (0, 0)), (b, ZeroVal)] := ⟨_, rfl⟩
    have S6 : Step w0 [] wc (l ++ (X ++ r)) := S5.out.permR (perm_by fun f => by
      rw [hR, hX]; simp only [List.map_append, List.sum_append, List.map_cons, List.sum_cons, List.map_nil, List.sum_nil]; omega)
    have C := h.out.at (x := X) rfl S6
    obtain ⟨o, ho⟩ : ∃ o, o = (S.look k now).getD zeroItm := ⟨_, rfl⟩
    have hget := C.get k (by simp) now [] S6
    have ca : wc.cell? ⟨g, off + 1, none⟩ = some (.string k) := C.args.at_ wc l S6 1 k rfl
    rw [← ho] at hget hkind hjob
    obtain ⟨kq, tq, fq⟩ := o
    simp only at hget hkind hjob
    have harg := hid C.args
    have hag : Hid (Args w0 (X ++ r) g (off + 2) ws) := hid (C.args.drop 2)
    replace hget := hid hget
    replace ho := hid ho
    replace hX := hid hX
    clear S5 S6 C hR h
    unfold fv
    go_wp2_with fail
    refine hget.out.mono ?_
    rintro e w5 ⟨va, vn, vc, vl, l2, rfl, hat, hX2, S7, _⟩
    clear hget ca
    go_upto_region 6 with fail
    have S8 := S7.out.alloc (ItemObj kq tq (.slice va vn vc))
    generalize hw6 : w5.alloc _ = w6
    replace S8 : Step w0 [] w6 _ := hw6 ▸ S8
    clear hw6 S7
    generalize w5.heap.size = ib at S8 ⊢
    obtain ⟨L, hL⟩ : ∃ L : Hp, L = l2 ++ (vl ++ ((ib, ItemObj kq tq (.slice va vn vc)) :: (X ++ r))) := ⟨_, rfl⟩
    have S9 : Step w0 [] w6 L := S8.permR (perm_by fun f => by
      rw [hL]; simp only [List.map_append, List.sum_append, List.map_cons, List.sum_cons, List.map_nil, List.sum_nil]; omega)
    have him : (ib, ItemObj kq tq (.slice va vn vc)) ∈ L := by rw [hL]; simp
    have i0 : ∀ p : InW w0 [] L, p.w.cell? ⟨ib, 0, none⟩ = some (.int .i64 kq) := fun p => cells_get (p.h.own.at_ (ib, ItemObj kq tq (.slice va vn vc)) him) 0
    have i1 : ∀ p : InW w0 [] L, p.w.cell? ⟨ib, 1, none⟩ = some (.string tq) := fun p => cells_get (p.h.own.at_ (ib, ItemObj kq tq (.slice va vn vc)) him) 1
    have i2 : ∀ p : InW w0 [] L, p.w.cell? ⟨ib, 2, none⟩ = some (.slice va vn vc) := fun p => cells_get (p.h.own.at_ (ib, ItemObj kq tq (.slice va vn vc)) him) 2
    have i0' := i0 ⟨w6, S9⟩
    simp only at i0'
    have hsplit : ∀ w', Step w0 [] w' L → Step w0 [] w' ((l2 ++ (vl ++ [(ib, ItemObj kq tq (.slice va vn vc))])) ++ (X ++ r)) := fun w' h => by
      rw [hL] at h; simpa using h
    have ja : ∀ p : InW w0 [] L, p.w.cell? ⟨g, off + 1, none⟩ = some (.string k) := fun p => harg.out.at_ p.w _ (hsplit p.w p.h) 1 k rfl
    clear S8
    replace S9 := hid S9
    replace hL := hid hL
    clear him hsplit harg
    go_wp2_with fail
    refine wp_region_tail 10 S9.out (by kernel_rfl) (by kernel_rfl) (fun hne => ?_)
    simp only [List.take_succ_cons, List.take_zero, List.drop_succ_cons, List.drop_zero]
    repeat (go_big_quiet_step (fail))
    refine tail_nil fun w7 S10 => ?_
    clear i0 i1 i2 i0' ja hne S9
    rw [hL.out] at S10
    have hcall := hjob.out w7 l2 vl ((ib, ItemObj kq tq (.slice va vn vc)) :: (X ++ r)) (.slice va vn vc) _ S10 hX2.out hat.out (hag.out.more (x := [(ib, ItemObj kq tq (.slice va vn vc))])) rfl
    unfold fjobVal at hcall
    rw [hlen2.out] at hcall
    replace hcall := hid hcall
    clear S10 hjob
    go_wp2_with fail
    refine hcall.out.mono ?_
    rintro e w8 ⟨a, c2, xl, l3, rfl, hxl, hX3, S11⟩
    have S12 := S11.permR (l2 := (b, ZeroVal) :: (l3 ++ (xl ++ r) ++ [(ib, ItemObj kq tq (.slice va vn vc)), (b1, .cells #[.string sp.name, .int .i64 sp.kind, .int .i64 sp.least, .int .i64 sp.most, .int .i64 sp.first, .int .i64 sp.last, .int .i64 sp.step] 65 (0, 0))])) (perm_by fun f => by
      rw [hX.out]; simp only [List.map_append, List.sum_append, List.map_cons, List.sum_cons, List.map_nil, List.sum_nil]; omega)
    obtain ⟨⟨z0, hz0⟩, ⟨z1, hz1⟩, ⟨z2, hz2⟩, ⟨z3, hz3⟩, ⟨z4, hz4⟩, ⟨z5, hz5⟩, fz, hlt⟩ := cells6' S12.own.head
    obtain ⟨na, hna⟩ : ∃ na, na = xs.length := ⟨_, rfl⟩
    rw [← hna] at hxl ⊢
    have S13 := hid ((((((((S12.set 0 (.int .i64 kd)).set 1 (.string tx)).set 2 (.int .i64 nn)).set 3 (.float .f64 0)).set 4 (.bool false)).set 5 (.slice a na c2)).less (List.sublist_cons_self _ _)).less (List.sublist_append_left _ _))
    replace hna := hid hna
    replace hxl := hid hxl
    clear hcall S11 S12
    unfold ansVal
    go_wp2_with fail
    refine bodyPost_ret (v := .tuple #[ansVal kd tx nn (.slice a na c2), .bool true]) (by simp [results, Tryz.results13, go_sem, ansVal, *] <;> rfl) rfl ?_
    have q1 := hxl.out
    have q2 := S13.out
    rw [hna.out] at q1 q2 ⊢
    exact ⟨a, c2, xl, l3, rfl, q1, hX3, q2⟩

end Go.Proofs.YtkmjlpmepggciaaGreatDoor

namespace Go.Proofs.YtkmjlpmepggciaaGreatDoor
open Go Go.RowKit

set_option maxRecDepth 100000 in
set_option maxHeartbeats 4000000 in
theorem fdo_HGET {w0 w : World} {l r : Hp} {sb : Nat} {S : St} {g off : Nat} {c k : ByteArray} {ws : List ByteArray} (h : Ctx w0 w l r sb S g off (c :: k :: ws)) (sp : Sp) (hc : wcheck (c :: k :: ws) = (sp, ByteArray.empty)) (hm : mlook doesMap sp.name = some (fv 98)) (now : Int)
    (hkind : (((S.look k now).getD zeroItm).kind == 1) = false) (cap : Nat) (hcap : (c :: k :: ws).length < cap ∨ (c :: k :: ws).length = cap ∧ ws ≠ []) (hcap2 : cap ≤ 9223372036854775807) (T : St) (kd : Int) (tx : ByteArray) (nn : Int) (xs : List Lf)
    (hjob : ∀ (w' : World) (l2 vl R : Hp) (v : Value) (ar : Value), Step w0 [] w' (l2 ++ (vl ++ R)) → IsStore l2 sb (S.get k now) → IsFields v ((S.look k now).getD zeroItm).fs vl → Args w0 R g (off + 2) ws → ar = .slice (some ⟨g, off + 2, none⟩) ws.length (cap - 2) →
      Calls Tryz.prog 98 #[fjobVal sb ((S.look k now).getD zeroItm).kind ((S.look k now).getD zeroItm).text v now k ar] w' (FEnd w0 R sb T kd tx nn xs)) :
    Calls Tryz.prog 13 #[ptr sb, .int .i64 now, .slice (some ⟨g, off, none⟩) (c :: k :: ws).length cap] w (FDoEnd w0 r sb T kd tx nn xs) := by
  have H := h.alloc ZeroVal
  have hchk := check_some H.st (H.args.more (x := l)) cap
  rw [hc] at hchk
  clear hc
  unfold CheckPost Sp.val specVal at hchk
  simp only at hchk
  obtain ⟨n, hlen⟩ : ∃ n, (c :: k :: ws).length = n := ⟨_, rfl⟩
  have hlen2 : ws.length = n - 2 := by rw [← hlen]; simp only [List.length_cons]; omega
  rw [hlen] at hchk hcap ⊢
  have hn1 : 1 < n := by rw [← hlen]; simp only [List.length_cons]; omega
  have hn2 : (1 : Int) < (n : Int) := by omega
  have hn3 : 2 ≤ n := by omega
  have hn4 : (2 : Int) ≤ (n : Int) := by omega
  have hn5 : 0 < n := by omega
  have hcn : n ≤ cap := by omega
  have hc2 : ¬ cap - 2 = 0 := by
    rcases hcap with hcap | ⟨hcap, hne⟩
    · omega
    · have : 0 < ws.length := List.length_pos_iff.2 hne
      omega
  replace hlen := hid hlen
  replace hlen2 := hid hlen2
  replace hcap := hid hcap
  replace hchk := hid hchk
  replace hjob := hid hjob
  replace hm := hid hm
  replace h := hid h
  clear H
  go_enter Tryz.func13, Tryz.ntmps13
  go_wp2_with fail
  refine hchk.out.mono ?_
  rintro e w2 ⟨rfl, S2⟩
  clear hchk
  go_upto_region 2 with fail
  have S3 := S2.alloc (.cells #[.string sp.name, .int .i64 sp.kind, .int .i64 sp.least, .int .i64 sp.most, .int .i64 sp.first, .int .i64 sp.last, .int .i64 sp.step] 65)
  generalize hw3 : w2.alloc _ = w3
  replace S3 : Step w0 [] w3 _ := hw3 ▸ S3
  clear hw3 S2
  generalize w2.heap.size = b1 at S3 ⊢
  generalize w.heap.size = b at S3 ⊢
  obtain ⟨R, hR⟩ : ∃ R : Hp, R = (b1, .cells #[.string sp.name, .int .i64 sp.kind, .int .i64 sp.least, .int .i64 sp.most, .int .i64 sp.first, .int .i64 sp.last, .int .i64 sp.step] 65 (0, 0)) :: (b, ZeroVal) :: (l ++ r) := ⟨_, rfl⟩
  have S4 : Step w0 [] w3 R := S3.permR (perm_by fun f => by
    rw [hR]; simp only [List.map_append, List.sum_append, List.map_cons, List.sum_cons]; omega)
  have hsm : (b1, .cells #[.string sp.name, .int .i64 sp.kind, .int .i64 sp.least, .int .i64 sp.most, .int .i64 sp.first, .int .i64 sp.last, .int .i64 sp.step] 65 (0, 0)) ∈ R := by rw [hR]; simp
  have hdoes : ∀ w', Hid (Step w0 [] w' R → _) := fun w' => hid fun hw => does_any hw
  have hs1 : Hid (Step w0 [] w3.drew R) := hid S4.drew
  have hx1 : Hid (InX w0 R w3.drew) := hid ⟨[], S4.drew⟩
  have hkeep : Hid (∀ w', Hid (InX w0 R w') → w'.cell? ⟨b1, 0, none⟩ = some (.string sp.name) ∧ Hid (InX w0 R w')) := hid fun w' hx => ⟨cells_get (InX.get hx hsm) 0, hx⟩
  have hzero : ∀ w', (zeroValue 96).run Tryz.prog w' = .ok .nilFunc w' := fun w' => by kernel_rfl
  clear S3 S4 hsm
  go_cut [10, 11] (fun s10 s11 wc => s10 = fv 98 ∧ s11 = .bool true ∧ Hid (Step w0 [] wc R))
  case first =>
    go_region_held3 (fun w' => w'.cell? ⟨b1, 0, none⟩ = some (.string sp.name) ∧ Hid (InX w0 R w'))
      (first | (with_reducible exact hkeep.out _ hx1) | (with_reducible exact hkeep.out _ (by assumption)) | (fail "keep"))
      (first | (go_at_call 41; refine ((hdoes _).out hs1.out).mono ?_; rintro e w4 ⟨mb, o, rfl, hso, S5⟩; have hlk := run_look (P := Tryz.prog) (t := 98) Tryz.underlying98 Tryz.underlying9 hzero S5.own.head hso sp.name; rw [hm.out] at hlk; have hx2 : Hid (InX w0 R w4) := hid ⟨[(mb, o)], S5⟩; have S6 := hid (S5.less (List.sublist_cons_self _ _)); clear S5 hso))
    all_goals (
      go_wp2_with fail
      go_meet
      exact ⟨rfl, rfl, S6⟩)
  case rest =>
    obtain ⟨rfl, rfl, S5⟩ := hcut
    clear hdoes hs1 hx1 hkeep hzero
    obtain ⟨X, hX⟩ : ∃ X : Hp, X = [(b1, .cells #[.string sp.name, .int .i64 sp.kind, .int .i64 sp.least, .int .i64 sp.most, .int .i64 sp.first, .int .i64 sp.last, .int .i64 sp.step] 65 (0, 0)), (b, ZeroVal)] := ⟨_, rfl⟩
    have S6 : Step w0 [] wc (l ++ (X ++ r)) := S5.out.permR (perm_by fun f => by
      rw [hR, hX]; simp only [List.map_append, List.sum_append, List.map_cons, List.sum_cons, List.map_nil, List.sum_nil]; omega)
    have C := h.out.at (x := X) rfl S6
    obtain ⟨o, ho⟩ : ∃ o, o = (S.look k now).getD zeroItm := ⟨_, rfl⟩
    have hget := C.get k (by simp) now [] S6
    have ca : wc.cell? ⟨g, off + 1, none⟩ = some (.string k) := C.args.at_ wc l S6 1 k rfl
    rw [← ho] at hget hkind hjob
    obtain ⟨kq, tq, fq⟩ := o
    simp only at hget hkind hjob
    have harg := hid C.args
    have hag : Hid (Args w0 (X ++ r) g (off + 2) ws) := hid (C.args.drop 2)
    replace hget := hid hget
    replace ho := hid ho
    replace hX := hid hX
    clear S5 S6 C hR h
    unfold fv
    go_wp2_with fail
    refine hget.out.mono ?_
    rintro e w5 ⟨va, vn, vc, vl, l2, rfl, hat, hX2, S7, _⟩
    clear hget ca
    go_upto_region 6 with fail
    have S8 := S7.out.alloc (ItemObj kq tq (.slice va vn vc))
    generalize hw6 : w5.alloc _ = w6
    replace S8 : Step w0 [] w6 _ := hw6 ▸ S8
    clear hw6 S7
    generalize w5.heap.size = ib at S8 ⊢
    obtain ⟨L, hL⟩ : ∃ L : Hp, L = l2 ++ (vl ++ ((ib, ItemObj kq tq (.slice va vn vc)) :: (X ++ r))) := ⟨_, rfl⟩
    have S9 : Step w0 [] w6 L := S8.permR (perm_by fun f => by
      rw [hL]; simp only [List.map_append, List.sum_append, List.map_cons, List.sum_cons, List.map_nil, List.sum_nil]; omega)
    have him : (ib, ItemObj kq tq (.slice va vn vc)) ∈ L := by rw [hL]; simp
    have i0 : ∀ p : InW w0 [] L, p.w.cell? ⟨ib, 0, none⟩ = some (.int .i64 kq) := fun p => cells_get (p.h.own.at_ (ib, ItemObj kq tq (.slice va vn vc)) him) 0
    have i1 : ∀ p : InW w0 [] L, p.w.cell? ⟨ib, 1, none⟩ = some (.string tq) := fun p => cells_get (p.h.own.at_ (ib, ItemObj kq tq (.slice va vn vc)) him) 1
    have i2 : ∀ p : InW w0 [] L, p.w.cell? ⟨ib, 2, none⟩ = some (.slice va vn vc) := fun p => cells_get (p.h.own.at_ (ib, ItemObj kq tq (.slice va vn vc)) him) 2
    have i0' := i0 ⟨w6, S9⟩
    simp only at i0'
    have hsplit : ∀ w', Step w0 [] w' L → Step w0 [] w' ((l2 ++ (vl ++ [(ib, ItemObj kq tq (.slice va vn vc))])) ++ (X ++ r)) := fun w' h => by
      rw [hL] at h; simpa using h
    have ja : ∀ p : InW w0 [] L, p.w.cell? ⟨g, off + 1, none⟩ = some (.string k) := fun p => harg.out.at_ p.w _ (hsplit p.w p.h) 1 k rfl
    clear S8
    replace S9 := hid S9
    replace hL := hid hL
    clear him hsplit harg
    go_wp2_with fail
    refine wp_region_tail 10 S9.out (by kernel_rfl) (by kernel_rfl) (fun hne => ?_)
    simp only [List.take_succ_cons, List.take_zero, List.drop_succ_cons, List.drop_zero]
    repeat (go_big_quiet_step (fail))
    refine tail_nil fun w7 S10 => ?_
    clear i0 i1 i2 i0' ja hne S9
    rw [hL.out] at S10
    have hcall := hjob.out w7 l2 vl ((ib, ItemObj kq tq (.slice va vn vc)) :: (X ++ r)) (.slice va vn vc) _ S10 hX2.out hat.out (hag.out.more (x := [(ib, ItemObj kq tq (.slice va vn vc))])) rfl
    unfold fjobVal at hcall
    rw [hlen2.out] at hcall
    replace hcall := hid hcall
    clear S10 hjob
    go_wp2_with fail
    refine hcall.out.mono ?_
    rintro e w8 ⟨a, c2, xl, l3, rfl, hxl, hX3, S11⟩
    have S12 := S11.permR (l2 := (b, ZeroVal) :: (l3 ++ (xl ++ r) ++ [(ib, ItemObj kq tq (.slice va vn vc)), (b1, .cells #[.string sp.name, .int .i64 sp.kind, .int .i64 sp.least, .int .i64 sp.most, .int .i64 sp.first, .int .i64 sp.last, .int .i64 sp.step] 65 (0, 0))])) (perm_by fun f => by
      rw [hX.out]; simp only [List.map_append, List.sum_append, List.map_cons, List.sum_cons, List.map_nil, List.sum_nil]; omega)
    obtain ⟨⟨z0, hz0⟩, ⟨z1, hz1⟩, ⟨z2, hz2⟩, ⟨z3, hz3⟩, ⟨z4, hz4⟩, ⟨z5, hz5⟩, fz, hlt⟩ := cells6' S12.own.head
    obtain ⟨na, hna⟩ : ∃ na, na = xs.length := ⟨_, rfl⟩
    rw [← hna] at hxl ⊢
    have S13 := hid ((((((((S12.set 0 (.int .i64 kd)).set 1 (.string tx)).set 2 (.int .i64 nn)).set 3 (.float .f64 0)).set 4 (.bool false)).set 5 (.slice a na c2)).less (List.sublist_cons_self _ _)).less (List.sublist_append_left _ _))
    replace hna := hid hna
    replace hxl := hid hxl
    clear hcall S11 S12
    unfold ansVal
    go_wp2_with fail
    refine bodyPost_ret (v := .tuple #[ansVal kd tx nn (.slice a na c2), .bool true]) (by simp [results, Tryz.results13, go_sem, ansVal, *] <;> rfl) rfl ?_
    have q1 := hxl.out
    have q2 := S13.out
    rw [hna.out] at q1 q2 ⊢
    exact ⟨a, c2, xl, l3, rfl, q1, hX3, q2⟩

end Go.Proofs.YtkmjlpmepggciaaGreatDoor

namespace Go.Proofs.YtkmjlpmepggciaaGreatDoor
open Go Go.RowKit

set_option maxRecDepth 100000 in
set_option maxHeartbeats 4000000 in
theorem fdo_HLEN {w0 w : World} {l r : Hp} {sb : Nat} {S : St} {g off : Nat} {c k : ByteArray} (h : Ctx w0 w l r sb S g off [c, k]) (sp : Sp) (hc : wcheck [c, k] = (sp, ByteArray.empty)) (hm : mlook doesMap sp.name = some (fv 100)) (now : Int)
    (hkind : (((S.look k now).getD zeroItm).kind == 1) = false) (T : St) (kd : Int) (tx : ByteArray) (nn : Int) (xs : List Lf)
    (hjob : ∀ (w' : World) (l2 vl R : Hp) (v : Value) (ar : Value), Step w0 [] w' (l2 ++ (vl ++ R)) → IsStore l2 sb (S.get k now) → IsFields v ((S.look k now).getD zeroItm).fs vl → ar = .slice (some ⟨g, off, none⟩) 0 0 →
      Calls Tryz.prog 100 #[fjobVal sb ((S.look k now).getD zeroItm).kind ((S.look k now).getD zeroItm).text v now k ar] w' (FEnd w0 R sb T kd tx nn xs)) :
    Calls Tryz.prog 13 #[ptr sb, .int .i64 now, .slice (some ⟨g, off, none⟩) 2 2] w (FDoEnd w0 r sb T kd tx nn xs) := by
  have H := h.alloc ZeroVal
  have hchk := check_some H.st (H.args.more (x := l)) 2
  rw [hc] at hchk
  clear hc
  unfold CheckPost Sp.val specVal at hchk
  simp only at hchk
  have hlen : [c, k].length = 2 := rfl
  rw [hlen] at hchk
  clear hlen
  replace hchk := hid hchk
  replace hjob := hid hjob
  replace hm := hid hm
  replace h := hid h
  clear H
  go_enter Tryz.func13, Tryz.ntmps13
  go_wp2_with fail
  refine hchk.out.mono ?_
  rintro e w2 ⟨rfl, S2⟩
  clear hchk
  go_upto_region 2 with fail
  have S3 := S2.alloc (.cells #[.string sp.name, .int .i64 sp.kind, .int .i64 sp.least, .int .i64 sp.most, .int .i64 sp.first, .int .i64 sp.last, .int .i64 sp.step] 65)
  generalize hw3 : w2.alloc _ = w3
  replace S3 : Step w0 [] w3 _ := hw3 ▸ S3
  clear hw3 S2
  generalize w2.heap.size = b1 at S3 ⊢
  generalize w.heap.size = b at S3 ⊢
  obtain ⟨R, hR⟩ : ∃ R : Hp, R = (b1, .cells #[.string sp.name, .int .i64 sp.kind, .int .i64 sp.least, .int .i64 sp.most, .int .i64 sp.first, .int .i64 sp.last, .int .i64 sp.step] 65 (0, 0)) :: (b, ZeroVal) :: (l ++ r) := ⟨_, rfl⟩
  have S4 : Step w0 [] w3 R := S3.permR (perm_by fun f => by
    rw [hR]; simp only [List.map_append, List.sum_append, List.map_cons, List.sum_cons]; omega)
  have hsm : (b1, .cells #[.string sp.name, .int .i64 sp.kind, .int .i64 sp.least, .int .i64 sp.most, .int .i64 sp.first, .int .i64 sp.last, .int .i64 sp.step] 65 (0, 0)) ∈ R := by rw [hR]; simp
  have hdoes : ∀ w', Hid (Step w0 [] w' R → _) := fun w' => hid fun hw => does_any hw
  have hs1 : Hid (Step w0 [] w3.drew R) := hid S4.drew
  have hx1 : Hid (InX w0 R w3.drew) := hid ⟨[], S4.drew⟩
  have hkeep : Hid (∀ w', Hid (InX w0 R w') → w'.cell? ⟨b1, 0, none⟩ = some (.string sp.name) ∧ Hid (InX w0 R w')) := hid fun w' hx => ⟨cells_get (InX.get hx hsm) 0, hx⟩
  have hzero : ∀ w', (zeroValue 96).run Tryz.prog w' = .ok .nilFunc w' := fun w' => by kernel_rfl
  clear S3 S4 hsm
  go_cut [10, 11] (fun s10 s11 wc => s10 = fv 100 ∧ s11 = .bool true ∧ Hid (Step w0 [] wc R))
  case first =>
    go_region_held3 (fun w' => w'.cell? ⟨b1, 0, none⟩ = some (.string sp.name) ∧ Hid (InX w0 R w'))
      (first | (with_reducible exact hkeep.out _ hx1) | (with_reducible exact hkeep.out _ (by assumption)) | (fail "keep"))
      (first | (go_at_call 41; refine ((hdoes _).out hs1.out).mono ?_; rintro e w4 ⟨mb, o, rfl, hso, S5⟩; have hlk := run_look (P := Tryz.prog) (t := 98) Tryz.underlying98 Tryz.underlying9 hzero S5.own.head hso sp.name; rw [hm.out] at hlk; have hx2 : Hid (InX w0 R w4) := hid ⟨[(mb, o)], S5⟩; have S6 := hid (S5.less (List.sublist_cons_self _ _)); clear S5 hso))
    all_goals (
      go_wp2_with fail
      go_meet
      exact ⟨rfl, rfl, S6⟩)
  case rest =>
    obtain ⟨rfl, rfl, S5⟩ := hcut
    clear hdoes hs1 hx1 hkeep hzero
    obtain ⟨X, hX⟩ : ∃ X : Hp, X = [(b1, .cells #[.string sp.name, .int .i64 sp.kind, .int .i64 sp.least, .int .i64 sp.most, .int .i64 sp.first, .int .i64 sp.last, .int .i64 sp.step] 65 (0, 0)), (b, ZeroVal)] := ⟨_, rfl⟩
    have S6 : Step w0 [] wc (l ++ (X ++ r)) := S5.out.permR (perm_by fun f => by
      rw [hR, hX]; simp only [List.map_append, List.sum_append, List.map_cons, List.sum_cons, List.map_nil, List.sum_nil]; omega)
    have C := h.out.at (x := X) rfl S6
    obtain ⟨o, ho⟩ : ∃ o, o = (S.look k now).getD zeroItm := ⟨_, rfl⟩
    have hget := C.get k (by simp) now [] S6
    have ca : wc.cell? ⟨g, off + 1, none⟩ = some (.string k) := C.args.at_ wc l S6 1 k rfl
    rw [← ho] at hget hkind hjob
    obtain ⟨kq, tq, fq⟩ := o
    simp only at hget hkind hjob
    have harg := hid C.args
    replace hget := hid hget
    replace ho := hid ho
    replace hX := hid hX
    clear S5 S6 C hR h
    unfold fv
    go_wp2_with fail
    refine hget.out.mono ?_
    rintro e w5 ⟨va, vn, vc, vl, l2, rfl, hat, hX2, S7, _⟩
    clear hget ca
    go_upto_region 6 with fail
    have S8 := S7.out.alloc (ItemObj kq tq (.slice va vn vc))
    generalize hw6 : w5.alloc _ = w6
    replace S8 : Step w0 [] w6 _ := hw6 ▸ S8
    clear hw6 S7
    generalize w5.heap.size = ib at S8 ⊢
    obtain ⟨L, hL⟩ : ∃ L : Hp, L = l2 ++ (vl ++ ((ib, ItemObj kq tq (.slice va vn vc)) :: (X ++ r))) := ⟨_, rfl⟩
    have S9 : Step w0 [] w6 L := S8.permR (perm_by fun f => by
      rw [hL]; simp only [List.map_append, List.sum_append, List.map_cons, List.sum_cons, List.map_nil, List.sum_nil]; omega)
    have him : (ib, ItemObj kq tq (.slice va vn vc)) ∈ L := by rw [hL]; simp
    have i0 : ∀ p : InW w0 [] L, p.w.cell? ⟨ib, 0, none⟩ = some (.int .i64 kq) := fun p => cells_get (p.h.own.at_ (ib, ItemObj kq tq (.slice va vn vc)) him) 0
    have i1 : ∀ p : InW w0 [] L, p.w.cell? ⟨ib, 1, none⟩ = some (.string tq) := fun p => cells_get (p.h.own.at_ (ib, ItemObj kq tq (.slice va vn vc)) him) 1
    have i2 : ∀ p : InW w0 [] L, p.w.cell? ⟨ib, 2, none⟩ = some (.slice va vn vc) := fun p => cells_get (p.h.own.at_ (ib, ItemObj kq tq (.slice va vn vc)) him) 2
    have i0' := i0 ⟨w6, S9⟩
    simp only at i0'
    have hsplit : ∀ w', Step w0 [] w' L → Step w0 [] w' ((l2 ++ (vl ++ [(ib, ItemObj kq tq (.slice va vn vc))])) ++ (X ++ r)) := fun w' h => by
      rw [hL] at h; simpa using h
    have ja : ∀ p : InW w0 [] L, p.w.cell? ⟨g, off + 1, none⟩ = some (.string k) := fun p => harg.out.at_ p.w _ (hsplit p.w p.h) 1 k rfl
    clear S8
    replace S9 := hid S9
    replace hL := hid hL
    clear him hsplit harg
    go_wp2_with fail
    refine wp_region_tail 10 S9.out (by kernel_rfl) (by kernel_rfl) (fun hne => ?_)
    simp only [List.take_succ_cons, List.take_zero, List.drop_succ_cons, List.drop_zero]
    repeat (go_big_quiet_step (fail))
    refine tail_nil fun w7 S10 => ?_
    clear i0 i1 i2 i0' ja hne S9
    rw [hL.out] at S10
    have hcall := hjob.out w7 l2 vl ((ib, ItemObj kq tq (.slice va vn vc)) :: (X ++ r)) (.slice va vn vc) _ S10 hX2.out hat.out rfl
    unfold fjobVal at hcall
    replace hcall := hid hcall
    clear S10 hjob
    go_wp2_with fail
    refine hcall.out.mono ?_
    rintro e w8 ⟨a, c2, xl, l3, rfl, hxl, hX3, S11⟩
    have S12 := S11.permR (l2 := (b, ZeroVal) :: (l3 ++ (xl ++ r) ++ [(ib, ItemObj kq tq (.slice va vn vc)), (b1, .cells #[.string sp.name, .int .i64 sp.kind, .int .i64 sp.least, .int .i64 sp.most, .int .i64 sp.first, .int .i64 sp.last, .int .i64 sp.step] 65 (0, 0))])) (perm_by fun f => by
      rw [hX.out]; simp only [List.map_append, List.sum_append, List.map_cons, List.sum_cons, List.map_nil, List.sum_nil]; omega)
    obtain ⟨⟨z0, hz0⟩, ⟨z1, hz1⟩, ⟨z2, hz2⟩, ⟨z3, hz3⟩, ⟨z4, hz4⟩, ⟨z5, hz5⟩, fz, hlt⟩ := cells6' S12.own.head
    obtain ⟨na, hna⟩ : ∃ na, na = xs.length := ⟨_, rfl⟩
    rw [← hna] at hxl ⊢
    have S13 := hid ((((((((S12.set 0 (.int .i64 kd)).set 1 (.string tx)).set 2 (.int .i64 nn)).set 3 (.float .f64 0)).set 4 (.bool false)).set 5 (.slice a na c2)).less (List.sublist_cons_self _ _)).less (List.sublist_append_left _ _))
    replace hna := hid hna
    replace hxl := hid hxl
    clear hcall S11 S12
    unfold ansVal
    go_wp2_with fail
    refine bodyPost_ret (v := .tuple #[ansVal kd tx nn (.slice a na c2), .bool true]) (by simp [results, Tryz.results13, go_sem, ansVal, *] <;> rfl) rfl ?_
    have q1 := hxl.out
    have q2 := S13.out
    rw [hna.out] at q1 q2 ⊢
    exact ⟨a, c2, xl, l3, rfl, q1, hX3, q2⟩

end Go.Proofs.YtkmjlpmepggciaaGreatDoor
