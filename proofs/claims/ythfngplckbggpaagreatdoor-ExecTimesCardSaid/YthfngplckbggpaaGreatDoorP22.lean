/-
  texts: add (printed by gen_tjob.py).
-/
import Derived.Test.YthfngplckbggpaaGreatDoorP21
set_option linter.unusedVariables false
set_option linter.unusedSimpArgs false
namespace Go.Proofs.YthfngplckbggpaaGreatDoor
open Go Go.RowKit

theorem Ctx.right {w0 w : World} {l R : Hp} {sb : Nat} {S : St} {g off : Nat} {ws : List ByteArray} (h : Ctx w0 w l R sb S g off ws) {k : ByteArray} {now : Int} (it : Itm) (hl : S.look k now = some it) : rightB it :=
  ((h.fit.due k now).key _ (mlook_some hl)).2
theorem Ctx.got {w0 w : World} {l R : Hp} {sb : Nat} {S : St} {g off : Nat} {ws : List ByteArray} (h : Ctx w0 w l R sb S g off ws) (k : ByteArray) (now : Int) {w' : World} {l2 x : Hp} (hX : IsStore l2 sb (S.get k now)) (hS : Step w0 [] w' (l2 ++ (x ++ R))) : Ctx w0 w' l2 (x ++ R) sb (S.get k now) g off ws where
  st := hS
  gl := h.gl
  is := hX
  tight := Tight.get h.fit h.tight k now
  load := by rw [St.load_get h.fit]; exact h.load
  args := h.args.more

/-- If nothing is wrong it is a text. -/
theorem addOf_text (o : Option Itm) (n : Int) (h : (addOf o n).2.2 = 0) : ∃ s, (addOf o n).1 = textItm s := by
  unfold addOf at h ⊢
  cases o with
  | none => exact ⟨_, rfl⟩
  | some it =>
    by_cases hk : it.kind = 2
    · simp [hk] at h
    · simp only [hk, if_false] at h ⊢
      cases hw : wnum it.text with
      | none => rw [hw] at h; simp at h
      | some m =>
        rw [hw] at h
        simp only at h ⊢
        cases ha : wadd m n with
        | none => rw [ha] at h; simp at h
        | some j => exact ⟨_, rfl⟩
theorem addOf_known (o : Option Itm) (n : Int) : (addOf o n).2.2 = 0 ∨ (¬ (addOf o n).2.2 = 0 ∧ errKnown (addOf o n).2.2) := by
  unfold addOf
  cases o with
  | none => exact .inl rfl
  | some it =>
    by_cases hk : it.kind = 2
    · right; simp [hk, errKnown]
    · simp only [hk, if_false]
      cases hw : wnum it.text with
      | none => right; simp [errKnown]
      | some m =>
        simp only
        cases ha : wadd m n with
        | none => right; simp [errKnown]
        | some j => left; rfl

set_option maxRecDepth 100000 in
set_option maxHeartbeats 2000000 in
theorem add_job {w0 w : World} {l r : Hp} {sb : Nat} {S : St} {g off : Nat} {k : ByteArray} {ws : List ByteArray} (h : Ctx w0 w l r sb S g off (k :: ws)) (now : Int) (cap : Nat) (m : Int) (hm : -9223372036854775808 ≤ m ∧ m ≤ 9223372036854775807) :
    Calls Tryz.prog 49 #[jobVal sb now g off (k :: ws).length cap, .int .i64 m] w (StPost w0 r sb (tAdd S now k m).1 (lfVal (tAdd S now k m).2)) := by
  have H := (h.alloc (JobObj sb now g off (k :: ws).length cap)).alloc ZeroVal
  have hn : (0 : Int) < (((k :: ws).length : Nat) : Int) := by simp only [List.length_cons]; omega
  generalize hlen : (k :: ws).length = n at H hn ⊢
  replace hlen := hid hlen
  have hn2 : 0 < n := by omega
  have hn3 : (0 : Int) < (n : Int) := by omega
  have hn4 : 0 < n := by omega
  generalize hT : tAdd S now k m = T
  replace hT := hid hT
  clear h
  replace H := hid H
  go_enter Tryz.func49, Tryz.ntmps49
  unfold jobVal
  go_wp2_with fail
  generalize hw1 : (w.alloc _).alloc _ = w1
  replace H : Ctx w0 w1 _ _ _ _ _ _ _ := hw1 ▸ H.out
  clear hw1
  simp only [World.size_alloc] at H
  generalize w.heap.size = b at H ⊢
  have hjob := hid (Ctx.job (A := [(b + 1, ZeroVal)]) H)
  obtain ⟨R, hR⟩ : ∃ R, R = [(b + 1, ZeroVal)] ++ (b, JobObj sb now g off n cap) :: r := ⟨_, rfl⟩
  rw [← hR] at hjob
  replace H : Ctx w0 w1 l R sb S g off (k :: ws) := hR ▸ H
  have hget : ∀ (w' : World) (x : Hp), Hid (Step w0 [] w' (x ++ (l ++ R)) → _) := fun w' x => hid fun hw => H.get k (by simp) now x hw
  have hs1 : Hid (Step w0 [] w1.drew ([] ++ (l ++ R))) := hid H.st.drew
  have hs2 : Hid (∀ o : Obj, Step w0 [] (w1.alloc o).drew ([(w1.heap.size, o)] ++ (l ++ R))) := hid fun o => (H.st.alloc o).drew
  have hx1 : Hid (InX w0 R w1.drew) := hid ⟨l, H.st.drew⟩
  have hx0 : Hid (InX w0 R w1) := hid ⟨l, H.st⟩
  have hright : Hid (∀ it, (S.look k now) = some it → rightB it) := hid H.right
  have hgl := hid H.gl
  have hgot : Hid (∀ (w' : World) (l2 x : Hp), IsStore l2 sb (S.get k now) → Step w0 [] w' (l2 ++ (x ++ R)) → Ctx w0 w' l2 (x ++ R) sb (S.get k now) g off _) := hid fun w' l2 x h1 h2 => H.got k now h1 h2
  replace hR := hid hR
  clear H
  obtain ⟨kd, hkd⟩ : ∃ kd, kd = ((S.look k now).getD zeroItm).kind := ⟨_, rfl⟩
  obtain ⟨tx, htx⟩ : ∃ tx, tx = ((S.look k now).getD zeroItm).text := ⟨_, rfl⟩
  obtain ⟨is, his⟩ : ∃ is, is = (S.look k now).isSome := ⟨_, rfl⟩
  rw [← hkd, ← htx, ← his] at hget
  replace hkd := hid hkd
  replace htx := hid htx
  replace his := hid his
  go_cut [5, 6] (fun s3 s4 wc => ∃ nb va vn vc vl l2, s3 = .pointer (some ⟨nb, 0, none⟩) ∧ s4 = .bool is ∧ Hid (IsFields (.slice va vn vc) ((S.look k now).getD zeroItm).fs vl) ∧ Hid (IsStore l2 sb (S.get k now)) ∧ Hid (Step w0 [] wc ((nb, ItemObj kd tx (.slice va vn vc)) :: (l2 ++ (vl ++ R)))))
  case first =>
    go_region_held3 (fun w' => w'.cell? ⟨b, 0, none⟩ = some (ptr sb) ∧ w'.cell? ⟨b, 1, none⟩ = some (.int .i64 now) ∧ w'.cell? ⟨b, 2, none⟩ = some (.slice (some ⟨g, off, none⟩) n cap) ∧ w'.cell? ⟨g, off, none⟩ = some (.string k) ∧ Hid (InX w0 R w'))
      (first | (with_reducible exact hjob.out.one hx1) | (with_reducible exact hjob.out.one (by assumption)) | (with_reducible exact hjob.out.one (InX.alloc (by assumption) _)) | (with_reducible exact hjob.out.one (InX.drew (InX.alloc (by assumption) _))) | (with_reducible exact hjob.out.one (hset.out _ _ _)) | (fail "keep"))
      (first | (go_at_call 43; refine ((hget _ _).out hs1.out).mono ?_; rintro e w2 ⟨va, vn, vc, vl, l2, rfl, hat, hX, S2, hx2⟩) | (go_at_call 43; refine ((hget _ _).out (hs2.out _)).mono ?_; rintro e w2 ⟨va, vn, vc, vl, l2, rfl, hat, hX, S2, hx2⟩; obtain ⟨z0, z1, z2, zf⟩ := cells3 S2.out.own.head; have zl := block_lt S2.out.own.head; have hset : Hid (∀ v0 v1 v2, _) := hid fun v0 v1 v2 => InX.set3 (A := l2 ++ vl) (by rw [List.append_assoc]; exact S2.out) v0 v1 v2))
    · go_wp2_with fail
      go_meet
      exact ⟨_, va, vn, vc, vl, l2, rfl, rfl, hat, hX, hid (S2.out.alloc _)⟩
    · go_wp2_with fail
      go_meet
      exact ⟨_, va, vn, vc, vl, l2, rfl, rfl, hat, hX, hid (((S2.out.set 0 _).set 1 _).set 2 _)⟩
  case rest =>
    obtain ⟨nb, va, vn, vc, vl, l2, rfl, rfl, hat, hX, S3⟩ := hcut
    clear hget hs1 hs2 hx1 hx0
    obtain ⟨z0, z1, z2, zf⟩ := cells3 S3.out.own.head
    have hadd := iadd_all (S3.out.permR (l2 := vl ++ ((nb, ItemObj kd tx (.slice va vn vc)) :: (l2 ++ R))) (perm_by fun f => by simp only [List.map_append, List.sum_append, List.map_cons, List.sum_cons]; omega)) hgl.out hright.out hat.out m hm
    unfold itemVal at hadd
    rw [← hkd.out, ← htx.out] at hadd
    have htext := hid (addOf_text (S.look k now) m)
    have hknown := hid (addOf_known (S.look k now) m)
    have hTT : Hid (T = tKeep (S.get k now) now k (addOf (S.look k now) m).1 (addOf (S.look k now) m).2.2 (lfInt (addOf (S.look k now) m).2.1)) := hid hT.out.symm
    replace hadd := hid hadd
    clear hT hat S3 hright hkd htx his
    generalize addOf (S.look k now) m = q at hadd htext hknown hTT
    obtain ⟨nx, sm, code⟩ := q
    simp only at hadd htext hknown hTT
    go_wp2_with fail
    refine hadd.out.mono ?_
    rintro e w3 ⟨ua, un, uc, il, rfl, hnil, S4⟩
    clear hadd z0 z1 z2 zf
    replace hnil := hid hnil
    replace S4 := hid S4
    go_wp2_with fail
    generalize hw3 : w3.alloc _ = w4
    have S5 : Step w0 [] w4 _ := hw3 ▸ S4.out.alloc (ItemObj nx.kind nx.text (.slice ua un uc))
    clear hw3 S4
    generalize w3.heap.size = nb2 at S5 ⊢
    obtain ⟨X, hXX⟩ : ∃ X : Hp, X = (nb2, ItemObj nx.kind nx.text (.slice ua un uc)) :: (il ++ (vl ++ [(nb, ItemObj kd tx (.slice va vn vc))])) := ⟨_, rfl⟩
    have S6 := S5.permR (l2 := l2 ++ (X ++ R)) (perm_by fun f => by
      rw [hXX]
      simp only [List.map_append, List.sum_append, List.map_cons, List.sum_cons, List.map_nil, List.sum_nil]; omega)
    have hmem : (nb2, ItemObj nx.kind nx.text (.slice ua un uc)) ∈ X := by rw [hXX]; simp
    have hitm : ∀ p : InW w0 [] (l2 ++ (X ++ R)), Cells3 p.w nb2 (.int .i64 nx.kind) (.string nx.text) (.slice ua un uc) := fun p => cells3 (p.h.own.right.left.at_ _ hmem)
    have i0 : ∀ p : InW w0 [] (l2 ++ (X ++ R)), p.w.cell? ⟨nb2, 0, none⟩ = some (.int .i64 nx.kind) := fun p => (hitm p).c0
    have i1 : ∀ p : InW w0 [] (l2 ++ (X ++ R)), p.w.cell? ⟨nb2, 1, none⟩ = some (.string nx.text) := fun p => (hitm p).c1
    have i2 : ∀ p : InW w0 [] (l2 ++ (X ++ R)), p.w.cell? ⟨nb2, 2, none⟩ = some (.slice ua un uc) := fun p => (hitm p).c2
    have hin : ∀ p : InW w0 [] (l2 ++ (X ++ R)), InX w0 R p.w := fun p => ⟨l2 ++ X, by rw [List.append_assoc]; exact p.h⟩
    have j0 : ∀ p : InW w0 [] (l2 ++ (X ++ R)), p.w.cell? ⟨b, 0, none⟩ = some (ptr sb) := fun p => (hjob.out.at_ p.w (hin p)).c0
    have j1 : ∀ p : InW w0 [] (l2 ++ (X ++ R)), p.w.cell? ⟨b, 1, none⟩ = some (.int .i64 now) := fun p => (hjob.out.at_ p.w (hin p)).c1
    have j2 : ∀ p : InW w0 [] (l2 ++ (X ++ R)), p.w.cell? ⟨b, 2, none⟩ = some (.slice (some ⟨g, off, none⟩) n cap) := fun p => (hjob.out.at_ p.w (hin p)).c2
    replace S6 := hid S6
    clear hitm hin hmem S5
    replace hXX := hid hXX
    refine wp_region_tail 5 S6.out (by kernel_rfl) (by kernel_rfl) (fun hne => ?_)
    simp only [List.take_succ_cons, List.take_zero, List.drop_succ_cons, List.drop_zero]
    repeat (go_big_quiet_step ((go_at_call 63; refine Calls.inw (vint_any (InW.h _) _))))
    refine tail_nil fun w5 S7 => ?_
    clear i0 i1 i2 j0 j1 j2 hne S6
    have hkeep : Hid (Calls Tryz.prog 97 #[jobVal sb now g off n cap, .agg #[.int .i64 nx.kind, .string nx.text, .slice ua un uc], .int .i64 code, lfVal (lfInt sm)] w5 (StPost w0 (X ++ R) sb T.1 (lfVal T.2))) := hid (by
      rw [hTT.out]
      rcases hknown.out with hc | ⟨hne, hkn⟩
      · obtain ⟨s, hs⟩ := htext.out hc
        obtain ⟨_, hv⟩ := hnil.out hc
        have hk := keep_job (hgot.out w5 l2 X hX.out S7) now cap s (lfInt sm)
        rw [hlen.out] at hk
        rw [hv, hs, hc]
        exact hk
      · simp only [tKeep, if_neg hne]
        exact keep_err S7 hX.out nx.kind nx.text _ code hne hkn (lfInt sm))
    unfold jobVal lfVal lfInt ansVal at hkeep
    simp only at hkeep
    unfold ansVal
    clear S7 hTT hknown htext hnil hgot hX hjob
    go_wp2_with fail
    refine hkeep.out.mono ?_
    rintro e w6 ⟨rfl, l5, hX5, S8⟩
    rw [hR.out] at S8
    have S9 := S8.permR (l2 := (b + 1, ZeroVal) :: (l5 ++ r ++ (X ++ [(b, JobObj sb now g off n cap)]))) (perm_by fun f => by
      simp only [List.map_append, List.sum_append, List.map_cons, List.sum_cons, List.map_nil, List.sum_nil]; omega)
    have S10 := hid ((S9.setLf T.2).less (List.sublist_append_left _ _))
    obtain ⟨⟨c0, hc0⟩, ⟨c1, hc1⟩, ⟨c2, hc2⟩, ⟨c3, hc3⟩, ⟨c4, hc4⟩, ⟨c5, hc5⟩, fz, hlt⟩ := cells6 S9.own
    clear hkeep S8 S9 hR hXX
    go_wp2_with fail
    refine bodyPost_ret (v := lfVal T.2) (by simp [results, Tryz.results49, go_sem, ansVal, lfVal, *] <;> rfl) rfl ?_
    exact ⟨rfl, l5, hX5, S10.out⟩

end Go.Proofs.YthfngplckbggpaaGreatDoor
