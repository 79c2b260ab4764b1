/-
  fields: job.add (HINCRBY) of a field that has a number, where the sum is one.
-/
import Derived.Test.YtkmjlpmepggciaaGreatDoorPFDoes
import Derived.Deep.RegionHeld3
import Derived.Deep.DeepCutAuto
import Derived.Deep.CutBlock
set_option linter.unusedVariables false
set_option linter.unusedSimpArgs false
namespace Go.Proofs.YtkmjlpmepggciaaGreatDoor
open Go Go.RowKit

set_option maxRecDepth 100000 in
set_option maxHeartbeats 4000000 in
theorem fadd_ok {w0 w : World} {l r sl : Hp} {sb : Nat} {S : St} {v : Value} {fs : Fs} {kind : Int} {text : ByteArray} (hk : (kind == 1) = false) (hS : Step w0 [] w (l ++ (sl ++ r))) (hG : Glob w0) (hX : IsStore l sb S) (hT : Tight S) (hl : S.load ≤ 1000000000000)
    (hat : IsFields v fs sl) (hr : Rise fs) (hB : fs.length ≤ 256) (name num : ByteArray) (h1 : name.size ≤ 512) (hnum : num.size ≤ 4096) (hh : has fs name = true) (x m y : Int) (hx : wnum (fget fs name) = some x) (hxs : (fget fs name).size ≤ 4096) (hm : wnum num = some m) (hy : wadd x m = some y) (hys : (wtext y).size ≤ 4096)
    (hR : rightB (hitm (fput fs name (wtext y)))) (key : ByteArray) (hks : key.size ≤ 1099511627776) (now : Int) {g off : Nat} (ha : Args w0 r g off [name, num]) (cap n2 : Nat) (hn2 : n2 = 2) :
    Calls Tryz.prog 94 #[fjobVal sb kind text v now key (.slice (some ⟨g, off, none⟩) n2 cap)] w (StPost w0 r sb (fKeep S now key (hitm (fput fs name (wtext y))) y).1 (lfVal (fKeep S now key (hitm (fput fs name (wtext y))) y).2)) := by
  have m1 : 1 < n2 := by omega
  have m2 : (1 : Int) < (n2 : Int) := by omega
  have m3 : 0 < n2 := by omega
  have m5 : (0 : Int) < (n2 : Int) := by omega
  clear hn2
  obtain ⟨va, vc, rfl⟩ := hat.shape
  obtain ⟨nf, hnf⟩ : ∃ nf, nf = fs.length := ⟨_, rfl⟩
  rw [← hnf] at hat ⊢
  replace hnf := hid hnf
  have S1 := (hS.alloc (FJobObj sb kind text (.slice va nf vc) now key (.slice (some ⟨g, off, none⟩) n2 cap))).alloc ZeroVal
  simp only [World.size_alloc] at S1
  obtain ⟨T, hTT⟩ : ∃ T, T = fKeep S now key (hitm (fput fs name (wtext y))) y := ⟨_, rfl⟩
  rw [← hTT]
  have hmb := wnum_bounds hm
  obtain ⟨ty, hty⟩ : ∃ ty, ty = wtext y := ⟨_, rfl⟩
  rw [← hty] at hTT hR hys
  obtain ⟨tx, htx⟩ : ∃ tx, tx = fget fs name := ⟨_, rfl⟩
  rw [← htx] at hx hxs
  replace hty := hid hty
  replace htx := hid htx
  replace hTT := hid hTT
  replace S1 := hid S1
  replace hx := hid hx
  replace hy := hid hy
  replace hm := hid hm
  replace hh := hid hh
  clear hS
  go_enter Tryz.func94, Tryz.ntmps94
  unfold fjobVal
  go_upto_region 1 with fail
  generalize hw1 : (w.alloc _).alloc _ = w1
  replace S1 : Step w0 [] w1 _ := hw1 ▸ S1.out
  clear hw1
  generalize w.heap.size = b at S1 ⊢
  obtain ⟨R, hRR⟩ : ∃ R : Hp, R = [(b, FJobObj sb kind text (.slice va nf vc) now key (.slice (some ⟨g, off, none⟩) n2 cap)), (b + 1, ZeroVal)] ++ r := ⟨_, rfl⟩
  have S2 : Step w0 [] w1 (l ++ (sl ++ R)) := S1.permR (perm_by fun f => by
    rw [hRR]; simp only [List.map_append, List.sum_append, List.map_cons, List.sum_cons, List.map_nil, List.sum_nil]; omega)
  have hjm : (b, FJobObj sb kind text (.slice va nf vc) now key (.slice (some ⟨g, off, none⟩) n2 cap)) ∈ R := by rw [hRR]; simp
  have hag : Args w0 R g off [name, num] := by rw [hRR]; exact ha.more
  have c6 := (fjobAt (S2.own.right.right.at_ _ hjm)).c6
  have ca1 : w1.cell? ⟨g, off + 1, none⟩ = some (.string num) := hag.at_ w1 (l ++ sl) (by rw [List.append_assoc]; exact S2) 1 num rfl
  have hpar := wparse_any S2 hG num (by omega)
  have e1 : wcode (wnum num) = 0 := by rw [hm.out]; rfl
  have e2 : (wnum num).getD 0 = m := by rw [hm.out]; rfl
  rw [e1, e2] at hpar
  replace hpar := hid hpar
  replace hag := hid hag
  replace hRR := hid hRR
  clear S1 S2 e1 e2
  go_wp2_with fail
  refine hpar.out.mono ?_
  rintro e w2 ⟨rfl, S3⟩
  clear hpar c6 ca1
  go_upto_region 5 with fail
  have S4 := S3.alloc (ItemObj 0 ByteArray.empty (.slice none 0 0))
  generalize hw3 : w2.alloc _ = w3
  replace S4 : Step w0 [] w3 _ := hw3 ▸ S4
  clear hw3 S3
  generalize w2.heap.size = wb at S4 ⊢
  obtain ⟨L, hL⟩ : ∃ L : Hp, L = l ++ (sl ++ ((wb, ItemObj 0 ByteArray.empty (.slice none 0 0)) :: R)) := ⟨_, rfl⟩
  have S5 : Step w0 [] w3 L := S4.permR (perm_by fun f => by
    rw [hL]; simp only [List.map_append, List.sum_append, List.map_cons, List.sum_cons, List.map_nil, List.sum_nil]; omega)
  have hj2 : (b, FJobObj sb kind text (.slice va nf vc) now key (.slice (some ⟨g, off, none⟩) n2 cap)) ∈ L := by rw [hL]; simp [hjm]
  have j1 : ∀ p : InW w0 [] L, p.w.cell? ⟨b, 1, none⟩ = some (.int .i64 kind) := fun p => (fjobAt (p.h.own.at_ _ hj2)).c1
  have j2 : ∀ p : InW w0 [] L, p.w.cell? ⟨b, 2, none⟩ = some (.string text) := fun p => (fjobAt (p.h.own.at_ _ hj2)).c2
  have j3 : ∀ p : InW w0 [] L, p.w.cell? ⟨b, 3, none⟩ = some (.slice va nf vc) := fun p => (fjobAt (p.h.own.at_ _ hj2)).c3
  have j6 : ∀ p : InW w0 [] L, p.w.cell? ⟨b, 6, none⟩ = some (.slice (some ⟨g, off, none⟩) n2 cap) := fun p => (fjobAt (p.h.own.at_ _ hj2)).c6
  have hsplit : ∀ w', Step w0 [] w' L → Step w0 [] w' ((l ++ (sl ++ [(wb, ItemObj 0 ByteArray.empty (.slice none 0 0))])) ++ R) := fun w' h => by
    rw [hL] at h; simpa using h
  have ja : ∀ p : InW w0 [] L, p.w.cell? ⟨g, off, none⟩ = some (.string name) := fun p => hag.out.at_ p.w _ (hsplit p.w p.h) 0 name rfl
  have hget : ∀ w', Step w0 [] w' L → Calls Tryz.prog 155 #[itemVal kind text (.slice va nf vc), .string name] w' (AnsPost w0 L (.tuple #[.string tx, .bool true, .int .i64 0])) := fun w' h => by
    have hp : L.Perm (sl ++ (l ++ ((wb, ItemObj 0 ByteArray.empty (.slice none 0 0)) :: R))) := perm_by fun f => by
      rw [hL]; simp only [List.map_append, List.sum_append, List.map_cons, List.sum_cons]; omega
    have hg := get_any (text := text) hk (h.permR hp) hat hr (by omega) name
    rw [hh.out, ← htx.out] at hg
    exact hg.mono fun _ _ ⟨he, hs⟩ => ⟨he, hs.permR hp.symm⟩
  unfold itemVal at hget
  replace hget := hid hget
  replace S5 := hid S5
  replace hL := hid hL
  clear S4 hsplit hj2
  go_wp2_with fail
  refine wp_region_inw S5.out (by kernel_rfl) (by kernel_rfl) (fun hne => ?_)
  repeat (go_big_quiet_step ((go_at_call 155; refine Calls.inw (hget.out _ (InW.h _)))))
  refine inw_nil fun w4 S6 => ?_
  clear j1 j2 j3 j6 ja hne S5 hget
  have S7 : Step w0 [] w4 ((wb, ItemObj 0 ByteArray.empty (.slice none 0 0)) :: (l ++ (sl ++ R))) := S6.permR (perm_by fun f => by
    rw [hL.out]; simp only [List.map_append, List.sum_append, List.map_cons, List.sum_cons]; omega)
  obtain ⟨z0, z1, z2, zf⟩ := cells3 S7.own.head
  have zl := block_lt S7.own.head
  have S8 : Step w0 [] _ ((wb, ItemObj 1 tx (.slice none 0 0)) :: (l ++ (sl ++ R))) := ((S7.set 0 (.int .i64 1)).set 1 (.string tx)).set 2 (.slice none 0 0)
  clear S6 S7
  replace S8 := hid S8
  go_upto_region 8 with fail
  generalize hw5 : World.setCell (World.setCell (World.setCell w4 _ _) _ _) _ _ = w5 at S8 ⊢
  clear hw5 z0 z1 z2 zf zl
  have hadd := iadd_yes S8.out hG tx (by omega) x hx.out m hmb y hy.out
  rw [← hty.out] at hadd
  unfold itemVal at hadd
  have i0 : w5.cell? ⟨wb, 0, none⟩ = some (.int .i64 1) := cells_get S8.out.own.head 0
  have i1 : w5.cell? ⟨wb, 1, none⟩ = some (.string tx) := cells_get S8.out.own.head 1
  have i2 : w5.cell? ⟨wb, 2, none⟩ = some (.slice none 0 0) := cells_get S8.out.own.head 2
  replace hadd := hid hadd
  clear S8
  go_wp2_with fail
  refine hadd.out.mono ?_
  rintro e w6 ⟨rfl, S9⟩
  clear hadd i0 i1 i2
  go_upto_region 11 with fail
  have S10 := S9.alloc (ItemObj 1 ty (.slice none 0 0))
  generalize hw7 : w6.alloc _ = w7 at S10 ⊢
  clear hw7 S9
  generalize w6.heap.size = qb at S10 ⊢
  obtain ⟨R3, hR3⟩ : ∃ R3 : Hp, R3 = (qb, ItemObj 1 ty (.slice none 0 0)) :: (wb, ItemObj 1 tx (.slice none 0 0)) :: R := ⟨_, rfl⟩
  have S4 : Step w0 [] w7 (sl ++ (l ++ R3)) := S10.permR (perm_by fun f => by
    rw [hR3]; simp only [List.map_append, List.sum_append, List.map_cons, List.sum_cons]; omega)
  have hjm3 : (b, FJobObj sb kind text (.slice va nf vc) now key (.slice (some ⟨g, off, none⟩) n2 cap)) ∈ R3 := by rw [hR3]; exact List.mem_cons_of_mem _ (List.mem_cons_of_mem _ hjm)
  have hqm : (qb, ItemObj 1 ty (.slice none 0 0)) ∈ R3 := by rw [hR3]; exact List.mem_cons_self ..
  have hput : ∀ (w' : World) (x : Hp), Hid (Step w0 [] w' (x ++ (sl ++ (l ++ R3))) → Calls Tryz.prog 153 #[itemVal kind text (.slice va nf vc), .string name, .string ty] w' (FPutEnd w0 R3 l x (fput fs name ty) false)) := fun w' x => hid fun hw => by
    have hp := (itput_any (l := []) (r := x ++ (l ++ R3)) (text := text) hk (hw.permR (perm_by fun f => by simp only [List.map_append, List.sum_append]; omega)) hat hr hB name ty h1 hys (.inl hh.out)).mono fun _ _ hp => FPutEnd.of hp
    rw [hh.out] at hp
    exact hp
  unfold itemVal at hput
  have hs1 : Hid (Step w0 [] w7.drew ([] ++ (sl ++ (l ++ R3)))) := hid S4.drew
  have hs2 : Hid (∀ o : Obj, Step w0 [] (w7.alloc o).drew ([(w7.heap.size, o)] ++ (sl ++ (l ++ R3)))) := hid fun o => (S4.alloc o).drew
  have hx1 : Hid (InX w0 R3 w7.drew) := hid ⟨sl ++ l, by rw [List.append_assoc]; exact S4.drew⟩
  have hx0 : Hid (InX w0 R3 w7) := hid ⟨sl ++ l, by rw [List.append_assoc]; exact S4⟩
  have har : Hid (∀ w', InX w0 R3 w' → w'.cell? ⟨g, off, none⟩ = some (.string name)) := hid fun w' ⟨x, hx⟩ => by
    have hx2 : Step w0 [] w' ((x ++ [(qb, ItemObj 1 ty (.slice none 0 0)), (wb, ItemObj 1 tx (.slice none 0 0))]) ++ R) := by rw [List.append_assoc]; rw [hR3] at hx; exact hx
    exact hag.out.at_ w' _ hx2 0 name rfl
  have hkeep : Hid (∀ w', Hid (InX w0 R3 w') → w'.cell? ⟨b, 1, none⟩ = some (.int .i64 kind) ∧ w'.cell? ⟨b, 2, none⟩ = some (.string text) ∧ w'.cell? ⟨b, 3, none⟩ = some (.slice va nf vc) ∧ w'.cell? ⟨b, 6, none⟩ = some (.slice (some ⟨g, off, none⟩) n2 cap) ∧ w'.cell? ⟨g, off, none⟩ = some (.string name) ∧ w'.cell? ⟨qb, 1, none⟩ = some (.string ty) ∧ Hid (InX w0 R3 w')) := hid fun w' hx => by
    obtain ⟨_, d1, d2, d3, _, _, d6⟩ := fjobAt (InX.get hx hjm3)
    exact ⟨d1, d2, d3, d6, har.out w' hx.out, cells_get (InX.get hx hqm) 1, hx⟩
  clear S4 S10 har hjm hqm
  replace hR3 := hid hR3
  replace hjm3 := hid hjm3
  go_cut [4, 11, 12] (fun s4 s11 s12 wc => ∃ nb va2 vn vc2 sl2, s11 = .pointer (some ⟨nb, 0, none⟩) ∧ s4 = .int .i64 0 ∧ Hid (IsFields (.slice va2 vn vc2) (fput fs name ty) sl2) ∧ Hid (Step w0 [] wc ((nb, ItemObj 2 ByteArray.empty (.slice va2 vn vc2)) :: (l ++ (sl2 ++ R3)))))
  case first =>
    go_region_held3 (fun w' => w'.cell? ⟨b, 1, none⟩ = some (.int .i64 kind) ∧ w'.cell? ⟨b, 2, none⟩ = some (.string text) ∧ w'.cell? ⟨b, 3, none⟩ = some (.slice va nf vc) ∧ w'.cell? ⟨b, 6, none⟩ = some (.slice (some ⟨g, off, none⟩) n2 cap) ∧ w'.cell? ⟨g, off, none⟩ = some (.string name) ∧ w'.cell? ⟨qb, 1, none⟩ = some (.string ty) ∧ Hid (InX w0 R3 w'))
      (first | (with_reducible exact hkeep.out _ hx1) | (with_reducible exact hkeep.out _ (hset.out _ _ _)) | (with_reducible exact hkeep.out _ (by assumption)) | (with_reducible exact hkeep.out _ (InX.alloc (by assumption) _)) | (with_reducible exact hkeep.out _ (InX.drew (InX.alloc (by assumption) _))) | (fail "keep"))
      (first | (go_at_call 153; refine ((hput _ _).out hs1.out).mono ?_; rintro e w2 ⟨va2, vn, vc2, sl2, rfl, hat2, S5, hx2⟩) | (go_at_call 153; refine ((hput _ _).out (hs2.out _)).mono ?_; rintro e w2 ⟨va2, vn, vc2, sl2, rfl, hat2, S5, hx2⟩; obtain ⟨z0, z1, z2, zf⟩ := cells3 S5.out.own.head; have zl := block_lt S5.out.own.head; have hset : Hid (∀ v0 v1 v2, _) := hid fun v0 v1 v2 => InX.set3 (A := l ++ sl2) (by rw [List.append_assoc]; exact S5.out) v0 v1 v2))
    all_goals (
      go_wp2_with fail
      go_meet
      first | exact ⟨_, va2, vn, vc2, sl2, rfl, rfl, hat2, hid (S5.out.alloc _)⟩ | exact ⟨_, va2, vn, vc2, sl2, rfl, rfl, hat2, hid (((S5.out.set 0 _).set 1 _).set 2 _)⟩)
  case rest =>
    obtain ⟨nb, va2, vn, vc2, sl2, rfl, rfl, hat2, S5⟩ := hcut
    clear hput hs1 hs2 hx1 hx0 hkeep
    have S6 : Step w0 [] wc (l ++ (sl2 ++ ((nb, ItemObj 2 ByteArray.empty (.slice va2 vn vc2)) :: R3))) := S5.out.permR (perm_by fun f => by
      simp only [List.map_append, List.sum_append, List.map_cons, List.sum_cons]; omega)
    have hio := S6.own.right.right.head
    have i0 : wc.cell? ⟨nb, 0, none⟩ = some (.int .i64 2) := cells_get hio 0
    have i1 : wc.cell? ⟨nb, 1, none⟩ = some (.string ByteArray.empty) := cells_get hio 1
    have i2 : wc.cell? ⟨nb, 2, none⟩ = some (.slice va2 vn vc2) := cells_get hio 2
    obtain ⟨d0, d1, d2, d3, d4, d5, d6⟩ := fjobAt (S6.own.right.right.tail.at_ _ hjm3.out)
    have hkc := fkeep_any (kind' := kind) (text' := text) (v' := .slice va nf vc) (it := hitm (fput fs name ty)) S6 hG hX hT hl key hks (.inl ⟨hR, hat2.out⟩) ⟨va2, vn, vc2, rfl⟩ now y (.slice (some ⟨g, off, none⟩) n2 cap)
    rw [← hTT.out] at hkc
    unfold fjobVal itemVal at hkc
    have hend : Hid (∀ (w' : World) (l3 : Hp) (a : Lf), Step w0 [] w' (l3 ++ (sl2 ++ ((nb, ItemObj 2 ByteArray.empty (.slice va2 vn vc2)) :: R3))) → Step w0 [] _ (l3 ++ r)) := hid fun w' l3 a h => ((h.permR (l2 := (b + 1, ZeroVal) :: (l3 ++ r ++ (sl2 ++ [(nb, ItemObj 2 ByteArray.empty (.slice va2 vn vc2)), (qb, ItemObj 1 ty (.slice none 0 0)), (wb, ItemObj 1 tx (.slice none 0 0)), (b, FJobObj sb kind text (.slice va nf vc) now key (.slice (some ⟨g, off, none⟩) n2 cap))]))) (perm_by fun f => by
      rw [hR3.out, hRR.out]; simp only [List.map_append, List.sum_append, List.map_cons, List.sum_cons, List.map_nil, List.sum_nil]; omega)).setLf a).less (List.sublist_append_left _ _)
    have hkc2 : Hid (Calls Tryz.prog 154 #[.agg #[ptr sb, .int .i64 kind, .string text, .slice va nf vc, .int .i64 now, .string key, (.slice (some ⟨g, off, none⟩) n2 cap)], .agg #[.int .i64 2, .string ByteArray.empty, .slice va2 vn vc2], .int .i64 y] wc (StPost w0 (sl2 ++ ((nb, ItemObj 2 ByteArray.empty (.slice va2 vn vc2)) :: R3)) sb T.1 (lfVal T.2))) := hid hkc
    have hzm : (b + 1, ZeroVal) ∈ R3 := by rw [hR3.out, hRR.out]; simp
    clear hkc S5 S6 hio
    go_wp2_with fail
    refine hkc2.out.mono ?_
    rintro e w3 ⟨rfl, l3, hX3, S4⟩
    have S9 := hid (hend.out w3 l3 T.2 S4)
    obtain ⟨⟨z0, hz0⟩, ⟨z1, hz1⟩, ⟨z2, hz2⟩, ⟨z3, hz3⟩, ⟨z4, hz4⟩, ⟨z5, hz5⟩, fz, hlt⟩ := cells6' (S4.own.right.right.tail.at_ _ hzm)
    clear hkc2 S4 hend d0 d1 d2 d3 d4 d5 d6 i0 i1 i2 hzm
    unfold lfVal ansVal
    go_wp2_with fail
    refine bodyPost_ret (v := lfVal T.2) (by simp [results, Tryz.results94, go_sem, ansVal, lfVal, *] <;> rfl) rfl ?_
    exact ⟨rfl, l3, hX3, S9.out⟩

end Go.Proofs.YtkmjlpmepggciaaGreatDoor
