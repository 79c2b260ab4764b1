/-
  texts: nx (printed by gen_tjob.py).
-/
import Derived.Test.YthfngplckbggpaaGreatDoorP23
set_option linter.unusedVariables false
set_option linter.unusedSimpArgs false
namespace Go.Proofs.YthfngplckbggpaaGreatDoor
open Go Go.RowKit

theorem Ctx.peek {w0 w : World} {l R : Hp} {sb : Nat} {S : St} {g off : Nat} {ws : List ByteArray} (h : Ctx w0 w l R sb S g off ws) (k : ByteArray) (hk : k ∈ ws) (now : Int) {w' : World} (x : Hp) (hw : Step w0 [] w' (x ++ (l ++ R))) :
    Calls Tryz.prog 18 #[ptr sb, .string k, .int .i64 now] w' (PeekEnd w0 R x sb (S.due k now) ((S.look k now).getD zeroItm).kind ((S.look k now).getD zeroItm).text (S.look k now).isSome ((S.look k now).getD zeroItm).fs) :=
  (peek_any (hw.permR (l2 := l ++ (x ++ R)) (perm_by fun f => by simp only [List.map_append, List.sum_append]; omega)) h.gl h.is (by have := h.ev; omega) k (h.args.small k hk) now).mono fun _ _ hp => .of hp
theorem Ctx.peeked {w0 w : World} {l R : Hp} {sb : Nat} {S : St} {g off : Nat} {ws : List ByteArray} (h : Ctx w0 w l R sb S g off ws) (k : ByteArray) (now : Int) {w' : World} {l2 x : Hp} (hX : IsStore l2 sb (S.due k now)) (hS : Step w0 [] w' (l2 ++ (x ++ R))) : Ctx w0 w' l2 (x ++ R) sb (S.due k now) g off ws where
  st := hS
  gl := h.gl
  is := hX
  tight := h.tight.due k now
  load := by rw [St.load_due h.fit]; exact h.load
  args := h.args.more

theorem cells6' {w : World} {b : Nat} {o0 o1 o2 o3 o4 o5 : Value} {t : TypeId} (h : w.heap[b]? = some (.cells #[o0, o1, o2, o3, o4, o5] t (0, 0))) : Cells6 w b :=
  ⟨⟨_, cells_get h 0⟩, ⟨_, cells_get h 1⟩, ⟨_, cells_get h 2⟩, ⟨_, cells_get h 3⟩, ⟨_, cells_get h 4⟩, ⟨_, cells_get h 5⟩, fun j => cells_free h j, block_lt h⟩

set_option maxRecDepth 100000 in
set_option maxHeartbeats 2000000 in
theorem nx_job {w0 w : World} {l r : Hp} {sb : Nat} {S : St} {g off : Nat} {k m : ByteArray} {ws : List ByteArray} (h : Ctx w0 w l r sb S g off (k :: m :: ws)) (now : Int) (cap : Nat) :
    Calls Tryz.prog 45 #[jobVal sb now g off (k :: m :: ws).length cap] w (StPost w0 r sb (tNx S now k m).1 (lfVal (tNx S now k m).2)) := by
  have H := (h.alloc (JobObj sb now g off (k :: m :: ws).length cap)).alloc ZeroVal
  have hn : (1 : Int) < (((k :: m :: ws).length : Nat) : Int) := by simp only [List.length_cons]; omega
  generalize hlen : (k :: m :: ws).length = n at H hn ⊢
  replace hlen := hid hlen
  have hn2 : 1 < n := by omega
  have hn3 : (0 : Int) < (n : Int) := by omega
  have hn4 : 0 < n := by omega
  generalize hT : tNx S now k m = T
  replace hT := hid hT
  clear h
  replace H := hid H
  go_enter Tryz.func45, Tryz.ntmps45
  unfold jobVal
  go_wp2_with fail
  generalize hw1 : (w.alloc _).alloc _ = w1
  replace H : Ctx w0 w1 _ _ _ _ _ _ _ := hw1 ▸ H.out
  clear hw1
  simp only [World.size_alloc] at H
  generalize w.heap.size = b at H ⊢
  have hjob := hid (Ctx.job (A := [(b + 1, ZeroVal)]) H)
  obtain ⟨R, hR⟩ : ∃ R, R = [(b + 1, ZeroVal)] ++ (b, JobObj sb now g off n cap) :: r := ⟨_, rfl⟩
  rw [← hR] at hjob
  replace H : Ctx w0 w1 l R sb S g off (k :: m :: ws) := hR ▸ H
  have hget : ∀ (w' : World) (x : Hp), Hid (Step w0 [] w' (x ++ (l ++ R)) → _) := fun w' x => hid fun hw => H.peek k (by simp) now x hw
  have hs1 : Hid (Step w0 [] w1.drew ([] ++ (l ++ R))) := hid H.st.drew
  have hs2 : Hid (∀ o : Obj, Step w0 [] (w1.alloc o).drew ([(w1.heap.size, o)] ++ (l ++ R))) := hid fun o => (H.st.alloc o).drew
  have hx1 : Hid (InX w0 R w1.drew) := hid ⟨l, H.st.drew⟩
  have hx0 : Hid (InX w0 R w1) := hid ⟨l, H.st⟩
  have hright : Hid (∀ it, (S.look k now) = some it → rightB it) := hid H.right
  have hgl := hid H.gl
  have hgot : Hid (∀ (w' : World) (l2 x : Hp), IsStore l2 sb (S.due k now) → Step w0 [] w' (l2 ++ (x ++ R)) → Ctx w0 w' l2 (x ++ R) sb (S.due k now) g off _) := hid fun w' l2 x h1 h2 => H.peeked k now h1 h2
  replace hR := hid hR
  clear H
  obtain ⟨kd, hkd⟩ : ∃ kd, kd = ((S.look k now).getD zeroItm).kind := ⟨_, rfl⟩
  obtain ⟨tx, htx⟩ : ∃ tx, tx = ((S.look k now).getD zeroItm).text := ⟨_, rfl⟩
  obtain ⟨is, his⟩ : ∃ is, is = (S.look k now).isSome := ⟨_, rfl⟩
  rw [← hkd, ← htx, ← his] at hget
  replace hkd := hid hkd
  replace htx := hid htx
  replace his := hid his
  go_cut [3, 4] (fun s3 s4 wc => ∃ nb va vn vc vl l2, s3 = .pointer (some ⟨nb, 0, none⟩) ∧ s4 = .bool is ∧ Hid (IsFields (.slice va vn vc) ((S.look k now).getD zeroItm).fs vl) ∧ Hid (IsStore l2 sb (S.due k now)) ∧ Hid (Step w0 [] wc ((nb, ItemObj kd tx (.slice va vn vc)) :: (l2 ++ (vl ++ R)))))
  case first =>
    go_region_held3 (fun w' => w'.cell? ⟨b, 0, none⟩ = some (ptr sb) ∧ w'.cell? ⟨b, 1, none⟩ = some (.int .i64 now) ∧ w'.cell? ⟨b, 2, none⟩ = some (.slice (some ⟨g, off, none⟩) n cap) ∧ w'.cell? ⟨g, off, none⟩ = some (.string k) ∧ Hid (InX w0 R w'))
      (first | (with_reducible exact hjob.out.one hx1) | (with_reducible exact hjob.out.one (by assumption)) | (with_reducible exact hjob.out.one (InX.alloc (by assumption) _)) | (with_reducible exact hjob.out.one (InX.drew (InX.alloc (by assumption) _))) | (with_reducible exact hjob.out.one (hset.out _ _ _)) | (fail "keep"))
      (first | (go_at_call 18; refine ((hget _ _).out hs1.out).mono ?_; rintro e w2 ⟨va, vn, vc, vl, l2, rfl, hat, hX, S2, hx2⟩) | (go_at_call 18; refine ((hget _ _).out (hs2.out _)).mono ?_; rintro e w2 ⟨va, vn, vc, vl, l2, rfl, hat, hX, S2, hx2⟩; obtain ⟨z0, z1, z2, zf⟩ := cells3 S2.out.own.head; have zl := block_lt S2.out.own.head; have hset : Hid (∀ v0 v1 v2, _) := hid fun v0 v1 v2 => InX.set3 (A := l2 ++ vl) (by rw [List.append_assoc]; exact S2.out) v0 v1 v2))
    · go_wp2_with fail
      go_meet
      exact ⟨_, va, vn, vc, vl, l2, rfl, rfl, hat, hX, hid (S2.out.alloc _)⟩
    · go_wp2_with fail
      go_meet
      exact ⟨_, va, vn, vc, vl, l2, rfl, rfl, hat, hX, hid (((S2.out.set 0 _).set 1 _).set 2 _)⟩
  case rest =>
    obtain ⟨nb, va, vn, vc, vl, l2, rfl, rfl, hat, hX, S3⟩ := hcut
    clear hget hs1 hs2 hx1 hx0 hgl hright hkd htx
    obtain ⟨X, hXX⟩ : ∃ X : Hp, X = (nb, ItemObj kd tx (.slice va vn vc)) :: vl := ⟨_, rfl⟩
    have S6 := S3.out.permR (l2 := l2 ++ (X ++ R)) (perm_by fun f => by
      rw [hXX]
      simp only [List.map_append, List.sum_append, List.map_cons, List.sum_cons]; omega)
    have hend : ∀ (w' : World) (l3 : Hp) (a' : Lf), Step w0 [] w' (l3 ++ (X ++ R)) → Step w0 [] _ (l3 ++ r) := fun w' l3 a' h => ((h.permR (l2 := (b + 1, ZeroVal) :: (l3 ++ r ++ (X ++ [(b, JobObj sb now g off n cap)]))) (perm_by fun f => by
      rw [hR.out]; simp only [List.map_append, List.sum_append, List.map_cons, List.sum_cons, List.map_nil, List.sum_nil]; omega)).setLf a').less (List.sublist_append_left _ _)
    have hres : (b + 1, ZeroVal) ∈ R := by rw [hR.out]; simp
    clear S3 hat
    replace hXX := hid hXX
    cases his2 : is with
    | true =>
      have e : tNx S now k m = (S.due k now, lfInt 0) := by unfold tNx; rw [← his.out, his2]; rfl
      rw [hT.out] at e
      replace e := hid e
      have hint := hid (vint_any S6 0)
      clear hT his S6 hgot his2 hjob
      go_wp2_with fail
      refine hint.out.mono ?_
      rintro e1 w3 ⟨rfl, S5⟩
      have S9 := hid (hend w3 l2 (lfInt 0) S5)
      obtain ⟨⟨c0, hc0⟩, ⟨c1, hc1⟩, ⟨c2, hc2⟩, ⟨c3, hc3⟩, ⟨c4, hc4⟩, ⟨c5, hc5⟩, fz, hlt⟩ := cells6' (S5.own.right.right.at_ _ hres)
      clear hint S5 hend hres hR hXX
      unfold ansVal
      go_wp2_with fail
      refine bodyPost_ret (v := lfVal (lfInt 0)) (by simp [results, Tryz.results45, go_sem, ansVal, lfVal, lfInt, *] <;> rfl) rfl ?_
      rw [e.out]
      exact ⟨rfl, l2, hX.out, S9.out⟩
    | false =>
      have e : tNx S now k m = tFresh (S.due k now) now k m (lfInt 1) := by unfold tNx; rw [← his.out, his2]; rfl
      rw [hT.out] at e
      replace e := hid e
      have hin : ∀ p : InW w0 [] (l2 ++ (X ++ R)), InX w0 R p.w := fun p => ⟨l2 ++ X, by rw [List.append_assoc]; exact p.h⟩
      have j0 : ∀ p : InW w0 [] (l2 ++ (X ++ R)), p.w.cell? ⟨b, 0, none⟩ = some (ptr sb) := fun p => (hjob.out.at_ p.w (hin p)).c0
      have j1 : ∀ p : InW w0 [] (l2 ++ (X ++ R)), p.w.cell? ⟨b, 1, none⟩ = some (.int .i64 now) := fun p => (hjob.out.at_ p.w (hin p)).c1
      have j2 : ∀ p : InW w0 [] (l2 ++ (X ++ R)), p.w.cell? ⟨b, 2, none⟩ = some (.slice (some ⟨g, off, none⟩) n cap) := fun p => (hjob.out.at_ p.w (hin p)).c2
      have ja : ∀ p : InW w0 [] (l2 ++ (X ++ R)), p.w.cell? ⟨g, off + 1, none⟩ = some (.string m) := fun p => hjob.out.arg p.w (hin p) 1 m rfl
      replace S6 := hid S6
      clear hT his his2 hin hjob
      go_wp2_with fail
      refine wp_region_tail 6 S6.out (by kernel_rfl) (by kernel_rfl) (fun hne => ?_)
      simp only [List.take_succ_cons, List.take_zero, List.drop_succ_cons, List.drop_zero]
      repeat (go_big_quiet_step ((go_at_call 63; refine Calls.inw (vint_any (InW.h _) _))))
      refine tail_nil fun w5 S7 => ?_
      clear j0 j1 j2 ja hne S6
      have hfr := fresh_job (hgot.out w5 l2 X hX.out S7) now cap m (lfInt 1)
      rw [hlen.out, ← e.out] at hfr
      unfold jobVal lfVal lfInt ansVal at hfr
      replace hfr := hid hfr
      unfold ansVal
      clear S7 e hgot hX
      go_wp2_with fail
      refine hfr.out.mono ?_
      rintro e w6 ⟨rfl, l5, hX5, S8⟩
      have S9 := hid (hend w6 l5 T.2 S8)
      obtain ⟨⟨c0, hc0⟩, ⟨c1, hc1⟩, ⟨c2, hc2⟩, ⟨c3, hc3⟩, ⟨c4, hc4⟩, ⟨c5, hc5⟩, fz, hlt⟩ := cells6' (S8.own.right.right.at_ _ hres)
      clear hfr S8 hend hres hR hXX
      go_wp2_with fail
      refine bodyPost_ret (v := lfVal T.2) (by simp [results, Tryz.results45, go_sem, ansVal, lfVal, *] <;> rfl) rfl ?_
      exact ⟨rfl, l5, hX5, S9.out⟩

end Go.Proofs.YthfngplckbggpaaGreatDoor
