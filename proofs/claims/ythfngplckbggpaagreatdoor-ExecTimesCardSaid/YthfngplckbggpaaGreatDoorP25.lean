/-
  texts: swap (printed by gen_tjob.py).
-/
import Derived.Test.YthfngplckbggpaaGreatDoorP24
set_option linter.unusedVariables false
set_option linter.unusedSimpArgs false
namespace Go.Proofs.YthfngplckbggpaaGreatDoor
open Go Go.RowKit

/-- texts.told, whatever the store hands back. -/
theorem told_all {w0 w : World} {r : Hp} (hS : Step w0 [] w r) (o : Option Itm) (v : Value) :
    Calls Tryz.prog 42 #[.agg #[.int .i64 (o.getD zeroItm).kind, .string (o.getD zeroItm).text, v], .bool o.isSome] w (AnsPost w0 r (lfVal (toldOf o))) := by
  cases o with
  | none => exact told_nil hS _ _ v
  | some it =>
    simp only [Option.getD_some, Option.isSome_some, toldOf]
    by_cases hk : it.kind = 2
    · rw [if_pos hk, hk]; exact told_hash hS _ v
    · rw [if_neg hk]; exact told_text hS _ _ v hk

theorem InX.set6 {w0 w : World} {R A : Hp} {nb : Nat} {o0 o1 o2 o3 o4 o5 : Value} {t : TypeId} (h : Step w0 [] w ((nb, .cells #[o0, o1, o2, o3, o4, o5] t (0, 0)) :: (A ++ R))) (v0 v1 v2 v3 v4 v5 : Value) :
    Hid (InX w0 R ((((((w.setCell ⟨nb, 0, none⟩ v0).setCell ⟨nb, 1, none⟩ v1).setCell ⟨nb, 2, none⟩ v2).setCell ⟨nb, 3, none⟩ v3).setCell ⟨nb, 4, none⟩ v4).setCell ⟨nb, 5, none⟩ v5)) :=
  hid ⟨A, ((((((h.set 0 v0).set 1 v1).set 2 v2).set 3 v3).set 4 v4).set 5 v5).less (List.sublist_cons_self _ _)⟩
theorem Step.setLf' {w0 w : World} {l r : Hp} {b : Nat} {o0 o1 o2 o3 o4 o5 : Value} {t : TypeId} (h : Step w0 l w ((b, .cells #[o0, o1, o2, o3, o4, o5] t (0, 0)) :: r)) (a : Lf) :
    Step w0 l ((((((w.setCell ⟨b, 0, none⟩ (.int .i64 a.kind)).setCell ⟨b, 1, none⟩ (.string a.text)).setCell ⟨b, 2, none⟩ (.int .i64 a.n)).setCell ⟨b, 3, none⟩ (.float .f64 0)).setCell ⟨b, 4, none⟩ (.bool false)).setCell ⟨b, 5, none⟩ (.slice none 0 0)) ((b, .cells #[.int .i64 a.kind, .string a.text, .int .i64 a.n, .float .f64 0, .bool false, .slice none 0 0] t (0, 0)) :: r) := by
  have k := (((((h.set 0 (.int .i64 a.kind)).set 1 (.string a.text)).set 2 (.int .i64 a.n)).set 3 (.float .f64 0)).set 4 (.bool false)).set 5 (.slice none 0 0)
  rw [set6] at k
  exact k

theorem perm_mid (l2 vl R : Hp) : (l2 ++ (vl ++ R)).Perm (l2 ++ R ++ vl) := perm_by fun f => by simp only [List.map_append, List.sum_append]; omega

set_option maxRecDepth 100000 in
set_option maxHeartbeats 4000000 in
theorem swap_job {w0 w : World} {l r : Hp} {sb : Nat} {S : St} {g off : Nat} {k : ByteArray} {ws : List ByteArray} (h : Ctx w0 w l r sb S g off (k :: ws)) (now : Int) (cap : Nat) (m : ByteArray) (drop : Bool) (hm : drop = false → ∃ l, ws = m :: l) :
    Calls Tryz.prog 46 #[jobVal sb now g off (k :: ws).length cap, .bool drop] w (StPost w0 r sb (tSwap S now k m drop).1 (lfVal (tSwap S now k m drop).2)) := by
  have H := (h.alloc (JobObj sb now g off (k :: ws).length cap)).alloc ZeroVal
  have hn : (0 : Int) < (((k :: ws).length : Nat) : Int) := by simp only [List.length_cons]; omega
  generalize hlen : (k :: ws).length = n at H hn ⊢
  replace hlen := hid hlen
  have hn2 : 0 < n := by omega
  have hn3 : (0 : Int) < (n : Int) := by omega
  have hn4 : 0 < n := by omega
  generalize hT : tSwap S now k m drop = T
  replace hT := hid hT
  clear h
  replace H := hid H
  go_enter Tryz.func46, Tryz.ntmps46
  unfold jobVal
  go_wp2_with fail
  generalize hw1 : (w.alloc _).alloc _ = w1
  replace H : Ctx w0 w1 _ _ _ _ _ _ _ := hw1 ▸ H.out
  clear hw1
  simp only [World.size_alloc] at H
  generalize w.heap.size = b at H ⊢
  have hjob := hid (Ctx.job (A := [(b + 1, ZeroVal)]) H)
  obtain ⟨R, hR⟩ : ∃ R, R = [(b + 1, ZeroVal)] ++ (b, JobObj sb now g off n cap) :: r := ⟨_, rfl⟩
  rw [← hR] at hjob
  replace H : Ctx w0 w1 l R sb S g off (k :: ws) := hR ▸ H
  have hget : ∀ (w' : World) (x : Hp), Hid (Step w0 [] w' (x ++ (l ++ R)) → _) := fun w' x => hid fun hw => H.get k (by simp) now x hw
  have hs1 : Hid (Step w0 [] w1.drew ([] ++ (l ++ R))) := hid H.st.drew
  have hs2 : Hid (∀ o : Obj, Step w0 [] (w1.alloc o).drew ([(w1.heap.size, o)] ++ (l ++ R))) := hid fun o => (H.st.alloc o).drew
  have hx1 : Hid (InX w0 R w1.drew) := hid ⟨l, H.st.drew⟩
  have hx0 : Hid (InX w0 R w1) := hid ⟨l, H.st⟩
  have hgot : Hid (∀ (w' : World) (l2 x : Hp), IsStore l2 sb (S.get k now) → Step w0 [] w' (l2 ++ (x ++ R)) → Ctx w0 w' l2 (x ++ R) sb (S.get k now) g off _) := hid fun w' l2 x h1 h2 => H.got k now h1 h2
  have hkl := H.args.small k (by simp)
  replace hR := hid hR
  clear H
  have htold : ∀ (w' : World) (L : Hp) (v : Value), Hid (Step w0 [] w' L → _) := fun w' L v => hid fun hw => told_all hw (S.look k now) v
  obtain ⟨a, ha⟩ : ∃ a, a = toldOf (S.look k now) := ⟨_, rfl⟩
  rw [← ha] at htold
  unfold lfVal ansVal at htold
  generalize ((S.look k now).getD zeroItm).kind = kd at hget htold
  generalize ((S.look k now).getD zeroItm).text = tx at hget htold
  generalize (S.look k now).isSome = is at hget htold
  generalize ((S.look k now).getD zeroItm).fs = fs at hget
  have hTT : Hid (T = if a.kind = 2 then (S.get k now, a) else if drop then (((S.get k now).due k now).gone k 2, a) else tFresh (S.get k now) now k m a) := hid (by rw [← hT.out, tSwap, ← ha])
  clear hT ha
  go_cut [5] (fun s5 wc => ∃ nb l2, s5 = .pointer (some ⟨nb, 0, none⟩) ∧ Hid (IsStore l2 sb (S.get k now)) ∧ Hid (Step w0 [] wc ((nb, LfObj a) :: (l2 ++ R))))
  case first =>
    go_region_held3 (fun w' => w'.cell? ⟨b, 0, none⟩ = some (ptr sb) ∧ w'.cell? ⟨b, 1, none⟩ = some (.int .i64 now) ∧ w'.cell? ⟨b, 2, none⟩ = some (.slice (some ⟨g, off, none⟩) n cap) ∧ w'.cell? ⟨g, off, none⟩ = some (.string k) ∧ Hid (InX w0 R w'))
      (first | (with_reducible exact hjob.out.one hx1) | (with_reducible exact hjob.out.one (hset.out _ _ _ _ _ _)) | (with_reducible exact hjob.out.one (by assumption)) | (with_reducible exact hjob.out.one (InX.alloc (by assumption) _)) | (with_reducible exact hjob.out.one (InX.drew (InX.alloc (by assumption) _))) | (fail "keep"))
      (first | (go_at_call 43; refine ((hget _ _).out hs1.out).mono ?_; rintro e w2 ⟨va, vn, vc, vl, l2, rfl, hat, hX, S2, hx2⟩) | (go_at_call 43; refine ((hget _ _).out (hs2.out _)).mono ?_; rintro e w2 ⟨va, vn, vc, vl, l2, rfl, hat, hX, S2, hx2⟩) | (go_at_call 42; refine ((htold _ _ _).out S2.out).mono ?_; rintro e w3 ⟨rfl, S3⟩; obtain ⟨⟨c0, hc0⟩, ⟨c1, hc1⟩, ⟨c2, hc2⟩, ⟨c3, hc3⟩, ⟨c4, hc4⟩, ⟨c5, hc5⟩, fz, hlt⟩ := cells6' S3.own.head; have hset : Hid (∀ v0 v1 v2 v3 v4 v5, _) := hid fun v0 v1 v2 v3 v4 v5 => InX.set6 (A := l2 ++ vl) (R := R) (by rw [List.append_assoc]; exact S3) v0 v1 v2 v3 v4 v5; have hx3 : Hid (InX w0 R w3) := hid (S3.inX ([_] ++ (l2 ++ vl)) (by rw [List.append_assoc, List.append_assoc])); replace S3 := hid S3) | (go_at_call 42; refine ((htold _ _ _).out S2.out).mono ?_; rintro e w3 ⟨rfl, S3⟩; have hx3 : Hid (InX w0 R w3) := hid (S3.inX ([] ++ (l2 ++ vl)) (by rw [List.append_assoc, List.append_assoc])); replace S3 := hid S3) | (go_at_call 42; refine ((htold _ _ _).out (S2.out.alloc _)).mono ?_; rintro e w3 ⟨rfl, S3⟩; obtain ⟨⟨c0, hc0⟩, ⟨c1, hc1⟩, ⟨c2, hc2⟩, ⟨c3, hc3⟩, ⟨c4, hc4⟩, ⟨c5, hc5⟩, fz, hlt⟩ := cells6' S3.own.head; have hset : Hid (∀ v0 v1 v2 v3 v4 v5, _) := hid fun v0 v1 v2 v3 v4 v5 => InX.set6 (A := l2 ++ vl) (R := R) (by rw [List.append_assoc]; exact S3) v0 v1 v2 v3 v4 v5; have hx3 : Hid (InX w0 R w3) := hid (S3.inX ([_] ++ (l2 ++ vl)) (by rw [List.append_assoc, List.append_assoc]; rfl)); replace S3 := hid S3))
    · go_wp2_with fail
      go_meet
      exact ⟨_, l2, rfl, hX, hid (((S3.out.pick (l2 := l2 ++ R) (m := vl) (perm_by fun f => by simp only [List.map_append, List.sum_append, List.map_nil, List.sum_nil]; omega))).alloc _)⟩
    · go_wp2_with fail
      go_meet
      have h3 : Step w0 [] _ ((w2.heap.size, LfObj a) :: (l2 ++ (vl ++ R))) := S3.out.setLf' a
      exact ⟨_, l2, rfl, hX, hid (h3.pick (m := vl) (List.Perm.cons _ (perm_mid l2 vl R)))⟩
    · go_wp2_with fail
      go_meet
      have h3 : Step w0 [] _ ((w1.heap.size, LfObj a) :: (l2 ++ (vl ++ R))) := S3.out.setLf' a
      exact ⟨_, l2, rfl, hX, hid (h3.pick (m := vl) (List.Perm.cons _ (perm_mid l2 vl R)))⟩
  case rest =>
    obtain ⟨nb, l2, rfl, hX, S3⟩ := hcut
    clear hget hs1 hs2 hx1 hx0 htold
    obtain ⟨X, hXX⟩ : ∃ X : Hp, X = [(nb, LfObj a)] := ⟨_, rfl⟩
    have S6 := S3.out.permR (l2 := l2 ++ (X ++ R)) (perm_by fun f => by
      rw [hXX]
      simp only [List.map_append, List.sum_append, List.map_cons, List.sum_cons, List.map_nil, List.sum_nil]; omega)
    have hend : ∀ (w' : World) (l3 : Hp) (a' : Lf), Step w0 [] w' (l3 ++ (X ++ R)) → Step w0 [] _ (l3 ++ r) := fun w' l3 a' h => ((h.permR (l2 := (b + 1, ZeroVal) :: (l3 ++ r ++ (X ++ [(b, JobObj sb now g off n cap)]))) (perm_by fun f => by
      rw [hR.out]; simp only [List.map_append, List.sum_append, List.map_cons, List.sum_cons, List.map_nil, List.sum_nil]; omega)).setLf a').less (List.sublist_append_left _ _)
    have hres : (b + 1, ZeroVal) ∈ R := by rw [hR.out]; simp
    have hmem : (nb, LfObj a) ∈ X := by rw [hXX]; simp
    have hne : ¬ nb = b + 1 := by
      have hnd := S3.out.own.nd
      rw [keys_cons, List.nodup_cons] at hnd
      intro e
      apply hnd.1
      rw [keys_append, List.mem_append, e]
      exact .inr (List.mem_map.2 ⟨(b + 1, ZeroVal), hres, rfl⟩)
    have hne2 : ¬ b + 1 = nb := fun e => hne e.symm
    clear S3
    replace hXX := hid hXX
    obtain ⟨n0, n1, n2, n3, n4, n5⟩ := lfAt (S6.own.right.left.at_ _ hmem)
    by_cases h2 : a.kind = 2
    · have e : Hid (T = (S.get k now, a)) := hid (by rw [hTT.out, if_pos h2])
      have h2b : (a.kind == 2) = true := by rw [h2]; rfl
      have S9 := hid (hend _ l2 a S6)
      obtain ⟨⟨c0, hc0⟩, ⟨c1, hc1⟩, ⟨c2, hc2⟩, ⟨c3, hc3⟩, ⟨c4, hc4⟩, ⟨c5, hc5⟩, fz, hlt⟩ := cells6' (S6.own.right.right.at_ _ hres)
      clear hTT h2 S6 hend hres hR hXX hjob hmem hgot
      go_wp2_with fail
      refine bodyPost_ret (v := lfVal a) (by simp [results, Tryz.results46, go_sem, ansVal, lfVal, *] <;> rfl) rfl ?_
      rw [e.out]
      exact ⟨rfl, l2, hX.out, S9.out⟩
    · have h2b : (a.kind == 2) = false := by simpa using h2
      have hin : ∀ p : InW w0 [] (l2 ++ (X ++ R)), InX w0 R p.w := fun p => ⟨l2 ++ X, by rw [List.append_assoc]; exact p.h⟩
      have j0 : ∀ p : InW w0 [] (l2 ++ (X ++ R)), p.w.cell? ⟨b, 0, none⟩ = some (ptr sb) := fun p => (hjob.out.at_ p.w (hin p)).c0
      have j1 : ∀ p : InW w0 [] (l2 ++ (X ++ R)), p.w.cell? ⟨b, 1, none⟩ = some (.int .i64 now) := fun p => (hjob.out.at_ p.w (hin p)).c1
      have j2 : ∀ p : InW w0 [] (l2 ++ (X ++ R)), p.w.cell? ⟨b, 2, none⟩ = some (.slice (some ⟨g, off, none⟩) n cap) := fun p => (hjob.out.at_ p.w (hin p)).c2
      cases drop with
      | true =>
        have e : Hid (T = (((S.get k now).due k now).gone k 2, a)) := hid (by rw [hTT.out, if_neg h2]; rfl)
        have ja : ∀ p : InW w0 [] (l2 ++ (X ++ R)), p.w.cell? ⟨g, off, none⟩ = some (.string k) := fun p => hjob.out.arg p.w (hin p) 0 k rfl
        have hG := hid (hgot.out _ l2 X hX.out S6)
        replace S6 := hid S6
        clear hTT h2 hin hjob hgot
        go_wp2_with fail
        refine wp_region_tail 8 S6.out (by kernel_rfl) (by kernel_rfl) (fun hne => ?_)
        simp only [List.take_succ_cons, List.take_zero, List.drop_succ_cons, List.drop_zero]
        repeat (go_big_quiet_step (fail))
        refine tail_nil fun w5 S7 => ?_
        clear j0 j1 j2 ja hne S6 n0 n1 n2 n3 n4 n5
        have hdrop := hid (sdrop_any S7 hG.out.gl hX.out (by have := hG.out.ev; omega) k hkl now)
        clear S7 hG hX
        go_wp2_with fail
        refine hdrop.out.mono ?_
        rintro e1 w6 ⟨rfl, l5, hX5, S8⟩
        obtain ⟨n0, n1, n2, n3, n4, n5⟩ := lfAt (S8.own.right.left.at_ _ hmem)
        have S9 := hid (hend w6 l5 a S8)
        obtain ⟨⟨c0, hc0⟩, ⟨c1, hc1⟩, ⟨c2, hc2⟩, ⟨c3, hc3⟩, ⟨c4, hc4⟩, ⟨c5, hc5⟩, fz, hlt⟩ := cells6' (S8.own.right.right.at_ _ hres)
        clear hdrop S8 hend hres hR hXX hmem
        go_wp2_with fail
        refine bodyPost_ret (v := lfVal a) (by simp [results, Tryz.results46, go_sem, ansVal, lfVal, *] <;> rfl) rfl ?_
        rw [e.out]
        exact ⟨rfl, l5, hX5, S9.out⟩
      | false =>
        obtain ⟨ws', hws⟩ := hm rfl
        subst hws
        have e : Hid (T = tFresh (S.get k now) now k m a) := hid (by rw [hTT.out, if_neg h2]; rfl)
        have hn5 : 1 < n := by rw [← hlen.out]; simp only [List.length_cons]; omega
        have hn6 : (1 : Int) < (n : Int) := by omega
        have ja : ∀ p : InW w0 [] (l2 ++ (X ++ R)), p.w.cell? ⟨g, off + 1, none⟩ = some (.string m) := fun p => hjob.out.arg p.w (hin p) 1 m rfl
        have hlf : ∀ p : InW w0 [] (l2 ++ (X ++ R)), LfAt p.w nb a := fun p => lfAt (p.h.own.right.left.at_ _ hmem)
        have m0 : ∀ p : InW w0 [] (l2 ++ (X ++ R)), p.w.cell? ⟨nb, 0, none⟩ = some (.int .i64 a.kind) := fun p => (hlf p).c0
        have m1 : ∀ p : InW w0 [] (l2 ++ (X ++ R)), p.w.cell? ⟨nb, 1, none⟩ = some (.string a.text) := fun p => (hlf p).c1
        have m2 : ∀ p : InW w0 [] (l2 ++ (X ++ R)), p.w.cell? ⟨nb, 2, none⟩ = some (.int .i64 a.n) := fun p => (hlf p).c2
        have m3 : ∀ p : InW w0 [] (l2 ++ (X ++ R)), p.w.cell? ⟨nb, 3, none⟩ = some (.float .f64 0) := fun p => (hlf p).c3
        have m4 : ∀ p : InW w0 [] (l2 ++ (X ++ R)), p.w.cell? ⟨nb, 4, none⟩ = some (.bool false) := fun p => (hlf p).c4
        have m5 : ∀ p : InW w0 [] (l2 ++ (X ++ R)), p.w.cell? ⟨nb, 5, none⟩ = some (.slice none 0 0) := fun p => (hlf p).c5
        replace S6 := hid S6
        clear hTT h2 hin hjob hlf
        go_wp2_with fail
        refine wp_region_tail 6 S6.out (by kernel_rfl) (by kernel_rfl) (fun hne => ?_)
        simp only [List.take_succ_cons, List.take_zero, List.drop_succ_cons, List.drop_zero]
        repeat (go_big_quiet_step (fail))
        refine tail_nil fun w5 S7 => ?_
        clear j0 j1 j2 ja hne S6 m0 m1 m2 m3 m4 m5 n0 n1 n2 n3 n4 n5
        have hfr := fresh_job (hgot.out w5 l2 X hX.out S7) now cap m a
        rw [hlen.out, ← e.out] at hfr
        unfold jobVal lfVal ansVal at hfr
        replace hfr := hid hfr
        clear S7 e hgot hX
        go_wp2_with fail
        refine hfr.out.mono ?_
        rintro e w6 ⟨rfl, l5, hX5, S8⟩
        have S9 := hid (hend w6 l5 T.2 S8)
        obtain ⟨⟨c0, hc0⟩, ⟨c1, hc1⟩, ⟨c2, hc2⟩, ⟨c3, hc3⟩, ⟨c4, hc4⟩, ⟨c5, hc5⟩, fz, hlt⟩ := cells6' (S8.own.right.right.at_ _ hres)
        clear hfr S8 hend hres hR hXX hmem
        go_wp2_with fail
        refine bodyPost_ret (v := lfVal T.2) (by simp [results, Tryz.results46, go_sem, ansVal, lfVal, *] <;> rfl) rfl ?_
        exact ⟨rfl, l5, hX5, S9.out⟩

end Go.Proofs.YthfngplckbggpaaGreatDoor
