/-
  item.Add and item.Append, whatever the item is.
  texts: keep, fresh.
  texts: keep.
-/
import Derived.Test.YthfngplckbggpaaGreatDoorP20
set_option linter.unusedVariables false
set_option linter.unusedSimpArgs false
namespace Go.Proofs.YthfngplckbggpaaGreatDoor
open Go Go.RowKit

theorem itm3 (o0 o1 o2 v0 v1 v2 : Value) : (((#[o0, o1, o2] : Array Value).setIfInBounds 0 v0).setIfInBounds 1 v1).setIfInBounds 2 v2 = #[v0, v1, v2] := by kernel_rfl
theorem Step.setItem {w0 w : World} {l r : Hp} {b : Nat} {o0 o1 o2 : Value} {t : TypeId} (h : Step w0 l w ((b, .cells #[o0, o1, o2] t (0, 0)) :: r)) (kd : Int) (tx : ByteArray) (v : Value) :
    Step w0 l (((w.setCell ⟨b, 0, none⟩ (.int .i64 kd)).setCell ⟨b, 1, none⟩ (.string tx)).setCell ⟨b, 2, none⟩ v) ((b, .cells #[.int .i64 kd, .string tx, v] t (0, 0)) :: r) := by
  have k := ((h.set 0 (.int .i64 kd)).set 1 (.string tx)).set 2 v
  rw [itm3] at k; exact k

/-- What item.Add or item.Append hands back: an item (if nothing is wrong it is a text), and its memory. -/
def NextPost (w0 : World) (r il : Hp) (nx : Itm) (rest : List Value) (code : Int) (e : Ending) (w' : World) : Prop :=
  ∃ va vn vc il', e = .returned (.tuple (.agg #[.int .i64 nx.kind, .string nx.text, .slice va vn vc] :: rest).toArray) ∧ (code = 0 → il' = [] ∧ Value.slice va vn vc = .slice none 0 0) ∧ Step w0 [] w' (il' ++ (il ++ r))

set_option maxRecDepth 100000 in
theorem iadd_hash {w0 w : World} {r il : Hp} {v : Value} {it : Itm} (hS : Step w0 [] w (il ++ r)) (hk : it.kind = 2) (hat : IsFields v it.fs il) (hB : it.fs.length ≤ 1048576) (n : Int) :
    Calls Tryz.prog 96 #[itemVal it.kind it.text v, .int .i64 n] w (NextPost w0 r il it [.int .i64 0, .int .i64 91] 91) := by
  obtain ⟨kd, tx, fs⟩ := it
  simp only at hk hat hB ⊢
  subst hk
  obtain ⟨a, c, rfl⟩ := hat.shape
  have S1 := (hS.alloc (ItemObj 2 tx (.slice a fs.length c))).alloc (ItemObj 0 ByteArray.empty (.slice none 0 0))
  rw [World.size_alloc] at S1
  have S1' := S1.permR (l2 := il ++ ((w.heap.size + 1, ItemObj 0 ByteArray.empty (.slice none 0 0)) :: (w.heap.size, ItemObj 2 tx (.slice a fs.length c)) :: r)) (perm_by fun f => by simp only [List.map_append, List.sum_append, List.map_cons, List.sum_cons]; omega)
  have hcopy := hid (copy_any (kind := 2) (text := tx) S1' hat hB)
  clear hS S1 S1' hat
  go_enter Tryz.func96, Tryz.ntmps96
  unfold itemVal
  unfold itemVal at hcopy
  go_wp2_with fail
  refine hcopy.out.mono ?_
  rintro e w1 ⟨v', sl', rfl, hat', S2⟩
  obtain ⟨a', c', rfl⟩ := hat'.shape
  have S3 := S2.permR (l2 := (w.heap.size + 1, ItemObj 0 ByteArray.empty (.slice none 0 0)) :: (sl' ++ (il ++ r) ++ [(w.heap.size, ItemObj 2 tx (.slice a fs.length c))])) (perm_by fun f => by simp only [List.map_append, List.sum_append, List.map_cons, List.sum_cons, List.map_nil, List.sum_nil]; omega)
  generalize w.heap.size = b at S3 ⊢
  obtain ⟨x0, x1, x2, fz⟩ := cells3 S3.own.head
  have hlt := block_lt S3.own.head
  have S4 := hid (((S3.setItem 2 tx (.slice a' fs.length c')).less (List.sublist_cons_self _ _)).less (List.sublist_append_left _ _))
  clear hcopy S2 S3 hat'
  go_wp2_with fail
  refine bodyPost_ret (v := .tuple #[.agg #[.int .i64 2, .string tx, .slice a' fs.length c'], .int .i64 0, .int .i64 91]) (by simp [results, Tryz.results96, go_sem, *] <;> rfl) rfl ?_
  exact ⟨a', _, c', sl', rfl, fun h => absurd h (by decide), S4.out⟩

set_option maxRecDepth 100000 in
theorem iapp_hash {w0 w : World} {r il : Hp} {v : Value} {it : Itm} (hS : Step w0 [] w (il ++ r)) (hk : it.kind = 2) (hat : IsFields v it.fs il) (hB : it.fs.length ≤ 1048576) (s : ByteArray) :
    Calls Tryz.prog 102 #[itemVal it.kind it.text v, .string s] w (NextPost w0 r il it [.int .i64 91] 91) := by
  obtain ⟨kd, tx, fs⟩ := it
  simp only at hk hat hB ⊢
  subst hk
  obtain ⟨a, c, rfl⟩ := hat.shape
  have S1 := (hS.alloc (ItemObj 2 tx (.slice a fs.length c))).alloc (ItemObj 0 ByteArray.empty (.slice none 0 0))
  rw [World.size_alloc] at S1
  have S1' := S1.permR (l2 := il ++ ((w.heap.size + 1, ItemObj 0 ByteArray.empty (.slice none 0 0)) :: (w.heap.size, ItemObj 2 tx (.slice a fs.length c)) :: r)) (perm_by fun f => by simp only [List.map_append, List.sum_append, List.map_cons, List.sum_cons]; omega)
  have hcopy := hid (copy_any (kind := 2) (text := tx) S1' hat hB)
  clear hS S1 S1' hat
  go_enter Tryz.func102, Tryz.ntmps102
  unfold itemVal
  unfold itemVal at hcopy
  go_wp2_with fail
  refine hcopy.out.mono ?_
  rintro e w1 ⟨v', sl', rfl, hat', S2⟩
  obtain ⟨a', c', rfl⟩ := hat'.shape
  have S3 := S2.permR (l2 := (w.heap.size + 1, ItemObj 0 ByteArray.empty (.slice none 0 0)) :: (sl' ++ (il ++ r) ++ [(w.heap.size, ItemObj 2 tx (.slice a fs.length c))])) (perm_by fun f => by simp only [List.map_append, List.sum_append, List.map_cons, List.sum_cons, List.map_nil, List.sum_nil]; omega)
  generalize w.heap.size = b at S3 ⊢
  obtain ⟨x0, x1, x2, fz⟩ := cells3 S3.own.head
  have hlt := block_lt S3.own.head
  have S4 := hid (((S3.setItem 2 tx (.slice a' fs.length c')).less (List.sublist_cons_self _ _)).less (List.sublist_append_left _ _))
  clear hcopy S2 S3 hat'
  go_wp2_with fail
  refine bodyPost_ret (v := .tuple #[.agg #[.int .i64 2, .string tx, .slice a' fs.length c'], .int .i64 91]) (by simp [results, Tryz.results102, go_sem, *] <;> rfl) rfl ?_
  exact ⟨a', _, c', sl', rfl, fun h => absurd h (by decide), S4.out⟩

theorem itemVal_nil {it : Itm} {v : Value} {il : Hp} (hf : it.fs = []) (hat : IsFields v it.fs il) : v = .slice none 0 0 ∧ il = [] := by
  have hv := hat.nil hf
  subst hv
  have := hat.sl
  rw [hf] at this
  refine ⟨rfl, ?_⟩
  cases this
  rfl

/-- item.Add to what a key has. -/
theorem iadd_all {w0 w : World} {r il : Hp} {v : Value} {o : Option Itm} (hS : Step w0 [] w (il ++ r)) (hG : Glob w0) (hr : ∀ it, o = some it → rightB it) (hat : IsFields v (o.getD zeroItm).fs il) (n : Int) (hn : -9223372036854775808 ≤ n ∧ n ≤ 9223372036854775807) :
    Calls Tryz.prog 96 #[itemVal (o.getD zeroItm).kind (o.getD zeroItm).text v, .int .i64 n] w (NextPost w0 r il (addOf o n).1 [.int .i64 (addOf o n).2.1, .int .i64 (addOf o n).2.2] (addOf o n).2.2) := by
  cases o with
  | none =>
    obtain ⟨rfl, rfl⟩ := itemVal_nil rfl hat
    refine (iadd_new hS hG n hn).mono ?_
    rintro e w' ⟨rfl, h⟩
    exact ⟨none, 0, 0, [], rfl, fun _ => ⟨rfl, rfl⟩, h⟩
  | some it =>
    simp only [Option.getD_some] at hat ⊢
    have hit := hr it rfl
    rcases hit with ⟨h1, h2, h3⟩ | ⟨h1, _, _, _, h5, _⟩
    · obtain ⟨rfl, rfl⟩ := itemVal_nil h3 hat
      have hk2 : ¬ it.kind = 2 := by omega
      simp only [addOf, if_neg hk2]
      rw [h1]
      cases hw : wnum it.text with
      | none =>
        refine (iadd_not hS hG it.text (by omega) hw n).mono ?_
        rintro e w' ⟨rfl, h⟩
        exact ⟨none, 0, 0, [], by rw [h1]; rfl, fun _ => ⟨rfl, rfl⟩, h⟩
      | some m =>
        simp only
        cases ha : wadd m n with
        | none =>
          refine (iadd_over hS hG it.text (by omega) m hw n hn ha).mono ?_
          rintro e w' ⟨rfl, h⟩
          exact ⟨none, 0, 0, [], by rw [h1]; rfl, fun _ => ⟨rfl, rfl⟩, h⟩
        | some k =>
          refine (iadd_yes hS hG it.text (by omega) m hw n hn k ha).mono ?_
          rintro e w' ⟨rfl, h⟩
          exact ⟨none, 0, 0, [], rfl, fun _ => ⟨rfl, rfl⟩, h⟩
    · simp only [addOf, if_pos h1]
      exact iadd_hash hS h1 hat (by omega) n

/-- item.Append to what a key has. -/
theorem iapp_all {w0 w : World} {r il : Hp} {v : Value} {o : Option Itm} (hS : Step w0 [] w (il ++ r)) (hr : ∀ it, o = some it → rightB it) (hat : IsFields v (o.getD zeroItm).fs il) (s : ByteArray) (hs : s.size ≤ 1099511627776) :
    Calls Tryz.prog 102 #[itemVal (o.getD zeroItm).kind (o.getD zeroItm).text v, .string s] w (NextPost w0 r il (joinOf o s).1 [.int .i64 (joinOf o s).2] (joinOf o s).2) := by
  cases o with
  | none =>
    obtain ⟨rfl, rfl⟩ := itemVal_nil rfl hat
    by_cases hb : 4096 < s.size
    · simp only [joinOf, if_pos hb]
      refine (iapp_big hS 0 (by decide) ByteArray.empty s (by decide) hs (by show 4096 < 0 + s.size; omega)).mono ?_
      rintro e w' ⟨rfl, h⟩
      exact ⟨none, 0, 0, [], rfl, fun _ => ⟨rfl, rfl⟩, h⟩
    · simp only [joinOf, if_neg hb]
      refine (iapp_small hS 0 (by decide) ByteArray.empty s (by show 0 + s.size ≤ 4096; omega)).mono ?_
      rintro e w' ⟨rfl, h⟩
      exact ⟨none, 0, 0, [], by rw [ByteArray.empty_append]; rfl, fun _ => ⟨rfl, rfl⟩, h⟩
  | some it =>
    simp only [Option.getD_some] at hat ⊢
    have hit := hr it rfl
    rcases hit with ⟨h1, h2, h3⟩ | ⟨h1, _, _, _, h5, _⟩
    · obtain ⟨rfl, rfl⟩ := itemVal_nil h3 hat
      have hk2 : ¬ it.kind = 2 := by omega
      simp only [joinOf, if_neg hk2]
      by_cases hb : 4096 < it.text.size + s.size
      · simp only [if_pos hb]
        refine (iapp_big hS it.kind hk2 it.text s h2 hs hb).mono ?_
        rintro e w' ⟨rfl, h⟩
        exact ⟨none, 0, 0, [], rfl, fun _ => ⟨rfl, rfl⟩, h⟩
      · simp only [if_neg hb]
        refine (iapp_small hS it.kind hk2 it.text s (by omega)).mono ?_
        rintro e w' ⟨rfl, h⟩
        exact ⟨none, 0, 0, [], rfl, fun _ => ⟨rfl, rfl⟩, h⟩
    · simp only [joinOf, if_pos h1]
      exact iapp_hash hS h1 hat (by omega) s

end Go.Proofs.YthfngplckbggpaaGreatDoor

namespace Go.Proofs.YthfngplckbggpaaGreatDoor
open Go Go.RowKit

theorem Ctx.alloc {w0 w : World} {l r : Hp} {sb : Nat} {S : St} {g off : Nat} {ws : List ByteArray} (h : Ctx w0 w l r sb S g off ws) (o : Obj) : Ctx w0 (w.alloc o) l ((w.heap.size, o) :: r) sb S g off ws where
  st := (h.st.alloc o).permR (perm_by fun f => by simp only [List.map_append, List.sum_append, List.map_cons, List.sum_cons]; omega)
  gl := h.gl
  is := h.is
  tight := h.tight
  load := h.load
  args := h.args.more (x := [(w.heap.size, o)])
theorem Ctx.drew {w0 w : World} {l r : Hp} {sb : Nat} {S : St} {g off : Nat} {ws : List ByteArray} (h : Ctx w0 w l r sb S g off ws) : Ctx w0 w.drew l r sb S g off ws := ⟨h.st.drew, h.gl, h.is, h.tight, h.load, h.args⟩
theorem Ctx.fit {w0 w : World} {l r : Hp} {sb : Nat} {S : St} {g off : Nat} {ws : List ByteArray} (h : Ctx w0 w l r sb S g off ws) : Fit S := by obtain ⟨m, _, _, hf⟩ := h.is; exact hf
theorem Ctx.ev {w0 w : World} {l r : Hp} {sb : Nat} {S : St} {g off : Nat} {ws : List ByteArray} (h : Ctx w0 w l r sb S g off ws) : S.ev.length ≤ 1000000000000 := by have := h.load; unfold St.load at this; omega

abbrev LfObj (a : Lf) : Obj := .cells #[.int .i64 a.kind, .string a.text, .int .i64 a.n, .float .f64 0, .bool false, .slice none 0 0] 28 (0, 0)
structure LfAt (w : World) (b : Nat) (a : Lf) : Prop where
  c0 : w.cell? ⟨b, 0, none⟩ = some (.int .i64 a.kind)
  c1 : w.cell? ⟨b, 1, none⟩ = some (.string a.text)
  c2 : w.cell? ⟨b, 2, none⟩ = some (.int .i64 a.n)
  c3 : w.cell? ⟨b, 3, none⟩ = some (.float .f64 0)
  c4 : w.cell? ⟨b, 4, none⟩ = some (.bool false)
  c5 : w.cell? ⟨b, 5, none⟩ = some (.slice none 0 0)
theorem lfAt {w : World} {b : Nat} {a : Lf} (h : w.heap[b]? = some (LfObj a)) : LfAt w b a := ⟨cells_get h 0, cells_get h 1, cells_get h 2, cells_get h 3, cells_get h 4, cells_get h 5⟩

theorem putE_known (S : St) (k : ByteArray) (it : Itm) : S.putE k it = 0 ∨ (¬ S.putE k it = 0 ∧ errKnown (S.putE k it)) := by
  unfold St.putE
  split
  · exact .inr ⟨by decide, by unfold errKnown; omega⟩
  · split
    · exact .inr ⟨by decide, by unfold errKnown; omega⟩
    · exact .inl rfl

/-- What a store's work leaves, as a part. -/
theorem StPost.of {w0 : World} {r r2 m : Hp} {sb : Nat} {S : St} {v : Value} {e : Ending} {w' : World} (h : StPost w0 r sb S v e w') (p : ∀ f : Nat × Obj → Nat, (r.map f).sum = (r2.map f).sum + (m.map f).sum) : StPost w0 r2 sb S v e w' := by
  obtain ⟨rfl, l', h1, h2⟩ := h
  exact ⟨rfl, l', h1, h2.pick (l2 := l' ++ r2) (m := m) (perm_by fun f => by rw [List.map_append, List.sum_append, List.map_append, List.sum_append, List.map_append, List.sum_append, p f]; omega)⟩

set_option maxRecDepth 100000 in
set_option maxHeartbeats 1000000 in
theorem fresh_job {w0 w : World} {l r : Hp} {sb : Nat} {S : St} {g off : Nat} {k : ByteArray} {ws : List ByteArray} (h : Ctx w0 w l r sb S g off (k :: ws)) (now : Int) (cap : Nat) (s : ByteArray) (a : Lf) :
    Calls Tryz.prog 94 #[jobVal sb now g off (k :: ws).length cap, .string s, lfVal a] w (StPost w0 r sb (tFresh S now k s a).1 (lfVal (tFresh S now k s a).2)) := by
  have H := ((h.alloc (JobObj sb now g off (k :: ws).length cap)).alloc (LfObj a)).alloc ZeroVal
  have hn : (0 : Int) < (((k :: ws).length : Nat) : Int) := by simp only [List.length_cons]; omega
  generalize (k :: ws).length = n at H hn ⊢
  have hn2 : 0 < n := by omega
  generalize hT : tFresh S now k s a = T
  replace hT := hid hT
  clear h
  replace H := hid H
  go_enter Tryz.func94, Tryz.ntmps94
  unfold jobVal lfVal ansVal
  go_wp2_with fail
  generalize hw1 : ((w.alloc _).alloc _).alloc _ = w1
  replace H : Ctx w0 w1 _ _ _ _ _ _ _ := hw1 ▸ H.out
  clear hw1
  simp only [World.size_alloc] at H
  generalize w.heap.size = b at H ⊢
  obtain ⟨R, hR⟩ : ∃ R : Hp, R = (b + 1 + 1, ZeroVal) :: (b + 1, LfObj a) :: (b, JobObj sb now g off n cap) :: r := ⟨_, rfl⟩
  rw [← hR] at H
  have hjob : Job w0 R b sb now g off n cap (k :: ws) := by
    rw [hR] at H ⊢
    exact Ctx.job (A := [(b + 1 + 1, ZeroVal), (b + 1, LfObj a)]) H
  replace hR := hid hR
  have j0 : ∀ p : InW w0 [] (l ++ R), p.w.cell? ⟨b, 0, none⟩ = some (ptr sb) := fun p => (hjob.at_ p.w ⟨l, p.h⟩).c0
  have j1 : ∀ p : InW w0 [] (l ++ R), p.w.cell? ⟨b, 1, none⟩ = some (.int .i64 now) := fun p => (hjob.at_ p.w ⟨l, p.h⟩).c1
  have j2 : ∀ p : InW w0 [] (l ++ R), p.w.cell? ⟨b, 2, none⟩ = some (.slice (some ⟨g, off, none⟩) n cap) := fun p => (hjob.at_ p.w ⟨l, p.h⟩).c2
  have ja : ∀ p : InW w0 [] (l ++ R), p.w.cell? ⟨g, off, none⟩ = some (.string k) := fun p => hjob.arg p.w ⟨l, p.h⟩ 0 k rfl
  have hst := hid H.st
  replace H := hid H
  clear hjob
  refine wp_region_tail 10 hst.out (by kernel_rfl) (by kernel_rfl) (fun hne => ?_)
  simp only [List.take_succ_cons, List.take_zero, List.drop_succ_cons, List.drop_zero]
  repeat (go_big_quiet_step ((go_at_call 92; refine Calls.inw (ttext_any (InW.h _) s))))
  refine tail_nil fun w2 S2 => ?_
  clear j0 j1 j2 ja hne hst
  have hput := hid (sput_gen (l := l) (il := []) (r := R) (it := textItm s) S2 H.out.gl H.out.is H.out.tight (by have := H.out.ev; omega) k (H.out.args.small k (by simp)) (Putable.text s) false now)
  have hknown := putE_known S k (textItm s)
  have hTT : Hid (T = (S.putG k (textItm s) false now, if S.putE k (textItm s) = 0 then a else lfErr (S.putE k (textItm s)))) := hid hT.out.symm
  clear S2 hT H
  generalize S.putE k (textItm s) = pe at hput hknown hTT
  generalize S.putG k (textItm s) false now = pg at hput hTT
  simp only [itemVal, textItm, List.nil_append] at hput
  unfold itemVal
  go_wp2_with fail
  refine hput.out.mono ?_
  rintro e w3 ⟨rfl, l3, hX3, S3⟩
  rw [hR.out] at S3
  have S4 := S3.permR (l2 := (b + 1 + 1, ZeroVal) :: (b + 1, LfObj a) :: (l3 ++ r ++ [(b, JobObj sb now g off n cap)])) (perm_by fun f => by
    simp only [List.map_append, List.sum_append, List.map_cons, List.sum_cons, List.map_nil, List.sum_nil]; omega)
  have hend : ∀ (w' : World) (a' : Lf), Step w0 [] w' ((b + 1 + 1, ZeroVal) :: (b + 1, LfObj a) :: (l3 ++ r ++ [(b, JobObj sb now g off n cap)])) → Step w0 [] _ (l3 ++ r) := fun w' a' h => ((h.setLf a').less (List.sublist_cons_self _ _)).less (List.sublist_append_left _ _)
  clear hput S3 hR
  rcases hknown with rfl | ⟨hne, hkn⟩
  · rw [if_pos rfl] at hTT
    have S6 := hid (hend w3 a S4)
    obtain ⟨⟨c0, hc0⟩, ⟨c1, hc1⟩, ⟨c2, hc2⟩, ⟨c3, hc3⟩, ⟨c4, hc4⟩, ⟨c5, hc5⟩, fz, hlt⟩ := cells6 S4.own
    obtain ⟨a0, a1, a2, a3, a4, a5⟩ := lfAt S4.own.tail.head
    clear S4 hend
    go_wp2_with fail
    refine bodyPost_ret (v := lfVal a) (by simp [results, Tryz.results94, go_sem, ansVal, lfVal, *] <;> rfl) rfl ?_
    rw [hTT.out]
    exact ⟨rfl, l3, hX3, S6.out⟩
  · rw [if_neg hne] at hTT
    have herr := hid (tfail_any S4 pe hkn)
    have hpb : (pe == 0) = false := by simpa using hne
    clear S4 hkn hne
    unfold lfErr at hTT
    generalize errText pe = te at herr hTT
    go_wp2_with fail
    refine herr.out.mono ?_
    rintro e1 w4 ⟨rfl, S5⟩
    have S6 := hid (hend w4 ⟨2, te, 0⟩ S5)
    obtain ⟨⟨c0, hc0⟩, ⟨c1, hc1⟩, ⟨c2, hc2⟩, ⟨c3, hc3⟩, ⟨c4, hc4⟩, ⟨c5, hc5⟩, fz, hlt⟩ := cells6 S5.own
    clear herr S5 hend
    unfold ansVal
    go_wp2_with fail
    refine bodyPost_ret (v := lfVal ⟨2, te, 0⟩) (by simp [results, Tryz.results94, go_sem, ansVal, lfVal, *] <;> rfl) rfl ?_
    rw [hTT.out]
    exact ⟨rfl, l3, hX3, S6.out⟩

end Go.Proofs.YthfngplckbggpaaGreatDoor

namespace Go.Proofs.YthfngplckbggpaaGreatDoor
open Go Go.RowKit

set_option maxRecDepth 100000 in
theorem keep_err {w0 w : World} {l r : Hp} {sb : Nat} {S : St} {g off n cap : Nat} {now : Int} (hS : Step w0 [] w (l ++ r)) (hX : IsStore l sb S) (kd : Int) (tx : ByteArray) (v : Value) (c : Int) (hc : ¬ c = 0) (hk : errKnown c) (a : Lf) :
    Calls Tryz.prog 97 #[jobVal sb now g off n cap, .agg #[.int .i64 kd, .string tx, v], .int .i64 c, lfVal a] w (StPost w0 r sb S (lfVal (lfErr c))) := by
  have H := (((hS.alloc (JobObj sb now g off n cap)).alloc (ItemObj kd tx v)).alloc (LfObj a)).alloc ZeroVal
  simp only [World.size_alloc] at H
  have hcb : (c == 0) = false := by simpa using hc
  have herr := hid (tfail_any H c hk)
  unfold lfErr
  generalize errText c = te at herr ⊢
  clear H hS hk
  go_enter Tryz.func97, Tryz.ntmps97
  unfold jobVal lfVal ansVal
  go_wp2_with fail
  refine herr.out.mono ?_
  rintro e1 w4 ⟨rfl, S5⟩
  generalize w.heap.size = b at S5 ⊢
  have S6 := hid ((S5.setLf ⟨2, te, 0⟩).less ((List.sublist_cons_self _ _).trans ((List.sublist_cons_self _ _).trans (List.sublist_cons_self _ _))))
  obtain ⟨⟨c0, hc0⟩, ⟨c1, hc1⟩, ⟨c2, hc2⟩, ⟨c3, hc3⟩, ⟨c4, hc4⟩, ⟨c5, hc5⟩, fz, hlt⟩ := cells6 S5.own
  clear herr S5
  unfold ansVal
  go_wp2_with fail
  refine bodyPost_ret (v := lfVal ⟨2, te, 0⟩) (by simp [results, Tryz.results97, go_sem, ansVal, lfVal, *] <;> rfl) rfl ?_
  exact ⟨rfl, l, hX, S6.out⟩

set_option maxRecDepth 100000 in
set_option maxHeartbeats 1000000 in
theorem keep_job {w0 w : World} {l r : Hp} {sb : Nat} {S : St} {g off : Nat} {k : ByteArray} {ws : List ByteArray} (h : Ctx w0 w l r sb S g off (k :: ws)) (now : Int) (cap : Nat) (s : ByteArray) (a : Lf) :
    Calls Tryz.prog 97 #[jobVal sb now g off (k :: ws).length cap, .agg #[.int .i64 1, .string s, .slice none 0 0], .int .i64 0, lfVal a] w (StPost w0 r sb (tKeep S now k (textItm s) 0 a).1 (lfVal (tKeep S now k (textItm s) 0 a).2)) := by
  have H := (((h.alloc (JobObj sb now g off (k :: ws).length cap)).alloc (ItemObj 1 s (.slice none 0 0))).alloc (LfObj a)).alloc ZeroVal
  have hn : (0 : Int) < (((k :: ws).length : Nat) : Int) := by simp only [List.length_cons]; omega
  generalize (k :: ws).length = n at H hn ⊢
  have hn2 : 0 < n := by omega
  generalize hT : tKeep S now k (textItm s) 0 a = T
  replace hT := hid hT
  clear h
  replace H := hid H
  go_enter Tryz.func97, Tryz.ntmps97
  unfold jobVal lfVal ansVal
  go_wp2_with fail
  generalize hw1 : (((w.alloc _).alloc _).alloc _).alloc _ = w1
  replace H : Ctx w0 w1 _ _ _ _ _ _ _ := hw1 ▸ H.out
  clear hw1
  simp only [World.size_alloc] at H
  generalize w.heap.size = b at H ⊢
  obtain ⟨R, hR⟩ : ∃ R : Hp, R = (b + 1 + 1 + 1, ZeroVal) :: (b + 1 + 1, LfObj a) :: (b + 1, ItemObj 1 s (.slice none 0 0)) :: (b, JobObj sb now g off n cap) :: r := ⟨_, rfl⟩
  rw [← hR] at H
  have hjob : Job w0 R b sb now g off n cap (k :: ws) := by
    rw [hR] at H ⊢
    exact Ctx.job (A := [(b + 1 + 1 + 1, ZeroVal), (b + 1 + 1, LfObj a), (b + 1, ItemObj 1 s (.slice none 0 0))]) H
  have hmem : (b + 1, ItemObj 1 s (.slice none 0 0)) ∈ R := by rw [hR]; simp
  have hitm : ∀ p : InW w0 [] (l ++ R), Cells3 p.w (b + 1) (.int .i64 1) (.string s) (.slice none 0 0) := fun p => cells3 (p.h.own.right.at_ _ hmem)
  replace hR := hid hR
  have j0 : ∀ p : InW w0 [] (l ++ R), p.w.cell? ⟨b, 0, none⟩ = some (ptr sb) := fun p => (hjob.at_ p.w ⟨l, p.h⟩).c0
  have j1 : ∀ p : InW w0 [] (l ++ R), p.w.cell? ⟨b, 1, none⟩ = some (.int .i64 now) := fun p => (hjob.at_ p.w ⟨l, p.h⟩).c1
  have j2 : ∀ p : InW w0 [] (l ++ R), p.w.cell? ⟨b, 2, none⟩ = some (.slice (some ⟨g, off, none⟩) n cap) := fun p => (hjob.at_ p.w ⟨l, p.h⟩).c2
  have ja : ∀ p : InW w0 [] (l ++ R), p.w.cell? ⟨g, off, none⟩ = some (.string k) := fun p => hjob.arg p.w ⟨l, p.h⟩ 0 k rfl
  have i0 : ∀ p : InW w0 [] (l ++ R), p.w.cell? ⟨b + 1, 0, none⟩ = some (.int .i64 1) := fun p => (hitm p).c0
  have i1 : ∀ p : InW w0 [] (l ++ R), p.w.cell? ⟨b + 1, 1, none⟩ = some (.string s) := fun p => (hitm p).c1
  have i2 : ∀ p : InW w0 [] (l ++ R), p.w.cell? ⟨b + 1, 2, none⟩ = some (.slice none 0 0) := fun p => (hitm p).c2
  have hst := hid H.st
  replace H := hid H
  clear hjob hitm hmem
  refine wp_region_tail 9 hst.out (by kernel_rfl) (by kernel_rfl) (fun hne => ?_)
  simp only [List.take_succ_cons, List.take_zero, List.drop_succ_cons, List.drop_zero]
  repeat (go_big_quiet_step (fail))
  refine tail_nil fun w2 S2 => ?_
  clear j0 j1 j2 ja i0 i1 i2 hne hst
  have hput := hid (sput_gen (l := l) (il := []) (r := R) (it := textItm s) S2 H.out.gl H.out.is H.out.tight (by have := H.out.ev; omega) k (H.out.args.small k (by simp)) (Putable.text s) true now)
  have hknown := putE_known S k (textItm s)
  have hTT : Hid (T = (S.putG k (textItm s) true now, if S.putE k (textItm s) = 0 then a else lfErr (S.putE k (textItm s)))) := hid hT.out.symm
  clear S2 hT H
  generalize S.putE k (textItm s) = pe at hput hknown hTT
  generalize S.putG k (textItm s) true now = pg at hput hTT
  simp only [itemVal, textItm, List.nil_append] at hput
  go_wp2_with fail
  refine hput.out.mono ?_
  rintro e w3 ⟨rfl, l3, hX3, S3⟩
  rw [hR.out] at S3
  have S4 := S3.permR (l2 := (b + 1 + 1 + 1, ZeroVal) :: (b + 1 + 1, LfObj a) :: (l3 ++ r ++ [(b + 1, ItemObj 1 s (.slice none 0 0)), (b, JobObj sb now g off n cap)])) (perm_by fun f => by
    simp only [List.map_append, List.sum_append, List.map_cons, List.sum_cons, List.map_nil, List.sum_nil]; omega)
  have hend : ∀ (w' : World) (a' : Lf), Step w0 [] w' ((b + 1 + 1 + 1, ZeroVal) :: (b + 1 + 1, LfObj a) :: (l3 ++ r ++ [(b + 1, ItemObj 1 s (.slice none 0 0)), (b, JobObj sb now g off n cap)])) → Step w0 [] _ (l3 ++ r) := fun w' a' h => ((h.setLf a').less (List.sublist_cons_self _ _)).less (List.sublist_append_left _ _)
  clear hput S3 hR
  rcases hknown with rfl | ⟨hne, hkn⟩
  · rw [if_pos rfl] at hTT
    have S6 := hid (hend w3 a S4)
    obtain ⟨⟨c0, hc0⟩, ⟨c1, hc1⟩, ⟨c2, hc2⟩, ⟨c3, hc3⟩, ⟨c4, hc4⟩, ⟨c5, hc5⟩, fz, hlt⟩ := cells6 S4.own
    obtain ⟨a0, a1, a2, a3, a4, a5⟩ := lfAt S4.own.tail.head
    clear S4 hend
    go_wp2_with fail
    refine bodyPost_ret (v := lfVal a) (by simp [results, Tryz.results97, go_sem, ansVal, lfVal, *] <;> rfl) rfl ?_
    rw [hTT.out]
    exact ⟨rfl, l3, hX3, S6.out⟩
  · rw [if_neg hne] at hTT
    have herr := hid (tfail_any S4 pe hkn)
    have hpb : (pe == 0) = false := by simpa using hne
    clear S4 hkn hne
    unfold lfErr at hTT
    generalize errText pe = te at herr hTT
    go_wp2_with fail
    refine herr.out.mono ?_
    rintro e1 w4 ⟨rfl, S5⟩
    have S6 := hid (hend w4 ⟨2, te, 0⟩ S5)
    obtain ⟨⟨c0, hc0⟩, ⟨c1, hc1⟩, ⟨c2, hc2⟩, ⟨c3, hc3⟩, ⟨c4, hc4⟩, ⟨c5, hc5⟩, fz, hlt⟩ := cells6 S5.own
    clear herr S5 hend
    unfold ansVal
    go_wp2_with fail
    refine bodyPost_ret (v := lfVal ⟨2, te, 0⟩) (by simp [results, Tryz.results97, go_sem, ansVal, lfVal, *] <;> rfl) rfl ?_
    rw [hTT.out]
    exact ⟨rfl, l3, hX3, S6.out⟩

end Go.Proofs.YthfngplckbggpaaGreatDoor
