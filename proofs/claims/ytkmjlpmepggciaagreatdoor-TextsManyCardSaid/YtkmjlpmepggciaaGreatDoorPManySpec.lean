/-
  TextsMany, the plain law: of many that are set at once each has its last text. No program in sight.
  TextsMany: slices of words that grow; the pairs that came in; a map of texts.
  texts.Do, a command at a time (printed by gen_do.py).
  nearhandlaw18: TextsMany, the walk.
-/
import Derived.Test.YtkmjlpmepggciaaGreatDoorPOne
import Derived.Test.YtkmjlpmepggciaaGreatDoorP32
set_option linter.unusedVariables false
set_option linter.unusedSimpArgs false
namespace Go.Proofs.YtkmjlpmepggciaaGreatDoor
open Go

/-- Keys and texts, one behind the other. -/
def flat : List (ByteArray × ByteArray) → List ByteArray
  | [] => []
  | p :: l => p.1 :: p.2 :: flat l
/-- What each key is set to last. -/
def lastMap : AL ByteArray → List (ByteArray × ByteArray) → AL ByteArray
  | m, [] => m
  | m, p :: l => lastMap (mput m p.1 p.2) l

theorem flat_length (l : List (ByteArray × ByteArray)) : (flat l).length = 2 * l.length := by
  induction l with
  | nil => rfl
  | cons p l ih => simp only [flat, List.length_cons, ih]; omega
theorem flat_append (a b : List (ByteArray × ByteArray)) : flat (a ++ b) = flat a ++ flat b := by
  induction a with
  | nil => rfl
  | cons p a ih => simp only [List.cons_append, flat, ih]
theorem lastMap_append (m : AL ByteArray) (a b : List (ByteArray × ByteArray)) : lastMap m (a ++ b) = lastMap (lastMap m a) b := by
  induction a generalizing m with
  | nil => rfl
  | cons p a ih => simp only [List.cons_append, lastMap, ih]

theorem look_mset {α : Type} (m : AL α) (k : ByteArray) (v : α) (x : ByteArray) : mlook (mset m k v) x = if x = k then (mlook m k).map (fun _ => v) else mlook m x := by
  induction m with
  | nil => simp [mset, mlook]
  | cons p m ih =>
    obtain ⟨a, b⟩ := p
    simp only [mset, List.map_cons, mlook, List.find?_cons] at ih ⊢
    by_cases hp : a = k
    · subst hp
      by_cases hx : x = a
      · subst hx
        simp
      · have h1 : ¬ a = x := fun e => hx e.symm
        simp only [if_true, decide_eq_false h1, if_neg hx] at ih ⊢
        exact ih
    · by_cases hx : x = k
      · subst hx
        simp only [hp, if_false, decide_eq_false hp, if_true] at ih ⊢
        exact ih
      · by_cases h3 : a = x
        · subst h3
          simp [hp]
        · simp only [hp, if_false, decide_eq_false h3, if_neg hx] at ih ⊢
          exact ih
theorem look_mput {α : Type} (m : AL α) (k : ByteArray) (v : α) (x : ByteArray) : mlook (mput m k v) x = if x = k then some v else mlook m x := by
  unfold mput
  split
  · rename_i h
    obtain ⟨y, hy⟩ := Option.isSome_iff_exists.1 h
    rw [look_mset, hy]
    rfl
  · rename_i h
    have hn : mlook m k = none := by simpa using h
    by_cases hx : x = k
    · subst hx
      rw [if_pos rfl]
      simp only [mlook, Option.map_eq_none_iff] at hn
      simp only [mlook, List.find?_append, hn]
      simp
    · rw [if_neg hx]
      have h1 : ¬ k = x := fun e => hx e.symm
      simp only [mlook, List.find?_append, List.find?_cons, decide_eq_false h1, List.find?_nil, Option.or_none]
theorem nodup_mput {α : Type} {m : AL α} {k : ByteArray} {v : α} (h : (m.map Prod.fst).Nodup) : ((mput m k v).map Prod.fst).Nodup := mput_keys h

/-- A store of n texts at most, none of which ends: what each key has. -/
structure PInv (S : St) (n : Nat) (m : AL ByteArray) : Prop where
  fit : Fit S
  dd : S.D = []
  by_ : bytesOf S.L ≤ n * 1548
  bud : S.bud = 10000000
  load : S.load ≤ 2 * n
  nd : (m.map Prod.fst).Nodup
  look : ∀ k, mlook S.L k = (mlook m k).map textItm

theorem PInv.tight {S : St} {n : Nat} {m : AL ByteArray} (h : PInv S n m) (hn : n ≤ 1000) : Tight S := by
  have := h.by_; have := h.bud
  unfold Tight; omega
theorem PInv.due {S : St} {n : Nat} {m : AL ByteArray} (h : PInv S n m) (k : ByteArray) (now : Int) : S.due k now = S := by
  unfold St.due
  rw [h.dd]; rfl
theorem PInv.len {S : St} {n : Nat} {m : AL ByteArray} (h : PInv S n m) : S.L.length = m.length := by
  have hp : (S.L.map Prod.fst).Perm (m.map Prod.fst) := (List.perm_ext_iff_of_nodup h.fit.nd h.nd).2 fun k => by
    rw [← mlook_iff, ← mlook_iff, h.look k, Option.isSome_map]
  simpa using hp.length_eq

theorem PInv.put {S : St} {n : Nat} {m : AL ByteArray} (h : PInv S n m) (hn : n < 100) {k s : ByteArray} (hk : k.size ≤ 500) (hs : s.size ≤ 1000) :
    S.putE k (textItm s) = 0 ∧ PInv (S.putG k (textItm s) false 0) (n + 1) (mput m k s) := by
  have hc : cost k (textItm s) ≤ 1548 := by
    have := @cost_txt k s
    omega
  have he : S.putE k (textItm s) = 0 := putE_text (by omega) (by omega) (by rw [h.bud]; omega)
  refine ⟨he, ?_⟩
  have hfit := h.fit.lay (h.tight (by omega)) (key := k) (it := textItm s) (by omega) (text_right (by omega)) (by rw [h.bud]; omega) false
  have hb : bytesOf (S.lay k (textItm s) false).L ≤ (n + 1) * 1548 := by
    have h1 := bytes_mdel_le S.L k
    have h2 : bytesOf (mdel S.L k ++ [(k, textItm s)]) = bytesOf (mdel S.L k) + cost k (textItm s) := by rw [bytes_append]; simp [bytesOf]
    have h3 := h.by_
    show bytesOf (mdel S.L k ++ [(k, textItm s)]) ≤ _
    omega
  have hbud : (S.lay k (textItm s) false).bud = 10000000 := h.bud
  have hT : Tight (S.lay k (textItm s) false) := by unfold Tight; omega
  have e : S.putG k (textItm s) false 0 = S.lay k (textItm s) false := by
    rw [St.putG, if_pos he, St.put, h.due, evict_not hT]
  rw [e]
  refine ⟨hfit, ?_, hb, hbud, ?_, nodup_mput h.nd, fun x => ?_⟩
  · show (if false = true then S.D else mdel S.D k) = []
    rw [h.dd]; rfl
  · have := lay_load S k (textItm s) false
    have := h.load
    omega
  · rw [look_mput]
    show mlook (mdel S.L k ++ [(k, textItm s)]) x = _
    by_cases hx : x = k
    · subst hx
      rw [if_pos rfl, mlook_snoc_same]; rfl
    · have e5 := mlook_mdel (m := S.L) hx
      rw [if_neg hx, ← h.look x, ← e5]
      have h1 : ¬ k = x := fun e => hx e.symm
      simp only [mlook, List.find?_append, List.find?_cons, decide_eq_false h1, List.find?_nil, Option.or_none]

theorem tPairs_flat : ∀ (l : List (ByteArray × ByteArray)) {S : St} {n : Nat} {m : AL ByteArray} (_ : PInv S n m) (_ : n + l.length ≤ 100) (_ : ∀ p ∈ l, p.1.size ≤ 500 ∧ p.2.size ≤ 1000),
    (tPairs S 0 (flat l)).2 = lfOk ∧ PInv (tPairs S 0 (flat l)).1 (n + l.length) (lastMap m l)
  | [], S, n, m, h, _, _ => ⟨rfl, h⟩
  | p :: l, S, n, m, h, hn, hs => by
    have hp := hs p (by simp)
    simp only [List.length_cons] at hn
    have h1 := h.put (by omega) hp.1 hp.2
    have ih := tPairs_flat l h1.2 (by omega) (fun q hq => hs q (by simp [hq]))
    have e : tPairs S 0 (flat (p :: l)) = tPairs (S.putG p.1 (textItm p.2) false 0) 0 (flat l) := by
      rw [flat, tPairs, if_pos h1.1]
    rw [e, lastMap, List.length_cons, show n + (l.length + 1) = n + 1 + l.length by omega]
    exact ih

theorem PInv.get {S : St} {n : Nat} {m : AL ByteArray} (h : PInv S n m) (k : ByteArray) : PInv (S.get k 0) n m := by
  have e : S.get k 0 = S.touch k := by rw [St.get, h.due]
  have hf := h.fit.touch k
  have hl := St.load_touch h.fit k
  rw [e]
  have hp : (S.touch k).L.Perm S.L := by
    unfold St.touch
    split
    · rename_i it hi
      exact List.perm_append_comm.trans (mdel_split h.fit.nd hi).symm
    · exact List.Perm.refl _
  refine ⟨hf, ?_, by rw [bytes_perm hp]; exact h.by_, by rw [touch_bud]; exact h.bud, by rw [hl]; exact h.load, h.nd, fun x => ?_⟩
  · unfold St.touch
    split
    · exact h.dd
    · exact h.dd
  · rw [← h.look x]
    cases h1 : mlook S.L x with
    | some it => exact mlook_mem hf.nd (hp.mem_iff.2 (mlook_some h1))
    | none =>
      cases h2 : mlook (S.touch k).L x with
      | none => rfl
      | some it =>
        have := mlook_mem h.fit.nd (hp.mem_iff.1 (mlook_some h2))
        rw [h1] at this; cases this

theorem tMany_all : ∀ (ks : List ByteArray) {S : St} {n : Nat} {m : AL ByteArray} (_ : PInv S n m), PInv (tMany S 0 ks).1 n m ∧ (tMany S 0 ks).2 = ks.map fun k => tOne ((mlook m k).map textItm)
  | [], S, n, m, h => ⟨h, rfl⟩
  | k :: ks, S, n, m, h => by
    have ih := tMany_all ks (h.get k)
    have e : S.look k 0 = (mlook m k).map textItm := by rw [St.look, h.due, h.look]
    rw [tMany_cons]
    refine ⟨ih.1, ?_⟩
    simp only [List.map_cons, ih.2, e]

theorem lastMap_has : ∀ (l : List (ByteArray × ByteArray)) (m : AL ByteArray) (k : ByteArray), (k ∈ l.map Prod.fst ∨ (mlook m k).isSome) → (mlook (lastMap m l) k).isSome
  | [], m, k, h => by
    rcases h with h | h
    · simp at h
    · exact h
  | p :: l, m, k, h => by
    refine lastMap_has l (mput m p.1 p.2) k ?_
    by_cases hk : k = p.1
    · right; rw [look_mput, if_pos hk]; rfl
    · rcases h with h | h
      · simp only [List.map_cons, List.mem_cons, hk, false_or] at h
        exact .inl h
      · right; rw [look_mput, if_neg hk]; exact h

theorem lastMap_nd : ∀ (l : List (ByteArray × ByteArray)) {m : AL ByteArray} (_ : (m.map Prod.fst).Nodup), ((lastMap m l).map Prod.fst).Nodup
  | [], _, h => h
  | p :: l, _, h => lastMap_nd l (mput_keys h)

theorem new_inv : PInv (newSt 10000000) 0 [] where
  fit := newSt_fit _
  dd := rfl
  by_ := Nat.zero_le _
  bud := by decide +kernel
  load := Nat.zero_le _
  nd := List.nodup_nil
  look := fun _ => rfl

end Go.Proofs.YtkmjlpmepggciaaGreatDoor

namespace Go.Proofs.YtkmjlpmepggciaaGreatDoor
open Go Go.RowKit

abbrev IsWs (v : Value) (ws : List ByteArray) (sl : Hp) : Prop := SliceHp 1 9 v ws.length (ws.map Value.string) sl
theorem strInfo : (Tryz.prog.info? 9).map (fun i => (i.zero, i.size, i.bytes)) = some (some (.string ByteArray.empty), 1, 16) := by kernel_rfl

theorem IsWs.form {v : Value} {ws : List ByteArray} {sl : Hp} (h : IsWs v ws sl) (hne : ws ≠ []) :
    ∃ g c rest, v = .slice (some ⟨g, 0, none⟩) ws.length c ∧ sl = [(g, .cells (ws.map Value.string ++ rest).toArray 9 (0, 0))] ∧ ws.length ≤ c ∧ c ≤ 9223372036854775807 := by
  obtain ⟨n, hn⟩ : ∃ n, n = ws.length := ⟨_, rfl⟩
  obtain ⟨xs, hx⟩ : ∃ xs, xs = ws.map Value.string := ⟨_, rfl⟩
  unfold IsWs at h
  rw [← hn, ← hx] at h
  cases h with
  | nil => exact absurd (List.length_eq_zero_iff.1 hn.symm) hne
  | laid g n cap xs rest h1 h2 h3 h4 =>
    subst hx
    rw [hn]
    exact ⟨g, cap, rest, rfl, rfl, by omega, h4⟩

theorem IsWs.one (g : Nat) (s : ByteArray) : IsWs (.slice (some ⟨g, 0, none⟩) 1 1) [s] [(g, WsObj [s])] :=
  .laid g 1 1 [.string s] [] rfl rfl (Nat.le_refl _) (by unfold maxLen; omega)

/-- Words in a slice that whoever owns its block sees. -/
theorem Args.ws {w0 : World} {r : Hp} {g : Nat} {ws : List ByteArray} {rest : List Value} {t : TypeId} (hm : (g, .cells (ws.map Value.string ++ rest).toArray t (0, 0)) ∈ r) (hs : ∀ s ∈ ws, s.size ≤ 1099511627776) (hf : ws.length ≤ 1099511627776) : Args w0 r g 0 ws where
  at_ := fun w' x hS i s hi => by
    have hh : w'.heap[g]? = some (.cells (ws.map Value.string ++ rest).toArray t (0, 0)) := hS.own.at_ (g, .cells (ws.map Value.string ++ rest).toArray t (0, 0)) (List.mem_append_right _ hm)
    have hlt : i < (ws.map Value.string).length := by
      rw [List.length_map]; exact (List.getElem?_eq_some_iff.1 hi).1
    rw [Nat.zero_add, cells_get hh, List.getElem?_toArray, List.getElem?_append_left hlt, List.getElem?_map, hi]; rfl
  small := hs
  few := hf

theorem push_ws {w0 w : World} {sl r : Hp} {va : Option Addr} {k c : Nat} {ws : List ByteArray} {nb : Nat} (hS : Step w0 [] w (sl ++ r)) (hsl : IsWs (.slice va k c) ws sl) (hk : ws.length = k) (hB : k ≤ 1000000000) (news : List ByteArray) (h0 : 0 < news.length) (h1 : news.length ≤ 1000) (hm : (nb, WsObj news) ∈ r) :
    ∃ va' c' w' sl', (Builtin.append_ #[22, 22] 22 #[.slice va k c, .slice (some ⟨nb, 0, none⟩) news.length news.length]).run Tryz.prog w = .ok (.slice va' (k + news.length) c') w' ∧ IsWs (.slice va' (k + news.length) c') (ws ++ news) sl' ∧ Step w0 [] w' (sl' ++ r) := by
  have hh := hS.own.right.at_ _ hm
  obtain ⟨v', w', sl', hrun, hsl', S', _⟩ := run_append (P := Tryz.prog) (ty := 22) Tryz.underlying22 Tryz.underlying22 strInfo rfl (by decide) hS hsl
    ⟨nb, 0, none⟩ news.length news.length (news.map Value.string) (by simp) (by
      intro j u hu
      rw [addr_add, Nat.zero_add, cells_get hh, ← hu, List.getElem?_toArray]) (by
      intro u hu
      obtain ⟨s, _, rfl⟩ := List.mem_map.1 hu
      rfl) h0 (by rw [hk]; omega) (by rw [hk]; unfold maxLen; omega)
  obtain ⟨g, c', rest, hv, _, _, _⟩ := IsWs.form (v := v') (ws := ws ++ news) (sl := sl') (by
    unfold IsWs
    rw [List.length_append, List.map_append]
    exact hsl') (by intro e; rw [List.append_eq_nil_iff] at e; rw [e.2] at h0; simp at h0)
  rw [List.length_append, hk] at hv
  subst hv
  rw [hk] at hsl'
  refine ⟨_, c', w', sl', hrun, ?_, S'⟩
  unfold IsWs
  rw [List.length_append, List.map_append, hk]
  exact hsl'

/-- Texts as values. -/
def strs (m : AL ByteArray) : AL Value := m.map fun p => (p.1, Value.string p.2)
theorem strs_look (m : AL ByteArray) (k : ByteArray) : mlook (strs m) k = (mlook m k).map Value.string := by
  induction m with
  | nil => rfl
  | cons p m ih =>
    simp only [strs, List.map_cons, mlook, List.find?_cons] at ih ⊢
    by_cases h : p.1 = k
    · simp [h]
    · simp only [decide_eq_false h]; exact ih
theorem strs_put (m : AL ByteArray) (k v : ByteArray) : mput (strs m) k (.string v) = strs (mput m k v) := by
  have h1 : (mlook (strs m) k).isSome = (mlook m k).isSome := by rw [strs_look, Option.isSome_map]
  unfold mput
  rw [h1]
  split
  · simp only [mset, strs, List.map_map]
    apply List.map_congr_left
    intro p _
    simp only [Function.comp_def]
    split <;> rfl
  · simp [strs]
theorem strs_fst (m : AL ByteArray) : (strs m).map Prod.fst = m.map Prod.fst := by simp [strs, Function.comp_def]

/-- The pairs that came in: two cells each. -/
def PairsAt (w : World) (g off : Nat) (l : List (ByteArray × ByteArray)) : Prop :=
  ∀ i p, l[i]? = some p → w.cell? ⟨g, off + i * 2, none⟩ = some (.string p.1) ∧ w.cell? ⟨g, off + i * 2 + 1, none⟩ = some (.string p.2)

theorem PairsAt.step {w0 w' : World} {r : Hp} {g off : Nat} {l : List (ByteArray × ByteArray)} (h : PairsAt w0 g off l) (hb : g < w0.heap.size) (hS : Step w0 [] w' r) : PairsAt w' g off l := by
  have e : w'.heap[g]? = w0.heap[g]? := hS.same g hb (by simp [keys])
  intro i p hi
  have := h i p hi
  simpa only [World.cell?, e] using this

end Go.Proofs.YtkmjlpmepggciaaGreatDoor

namespace Go.Proofs.YtkmjlpmepggciaaGreatDoor
open Go Go.RowKit

def MDoPost (w0 : World) (r : Hp) (sb : Nat) (S : St) (xs : List Lf) (e : Ending) (w' : World) : Prop :=
  ∃ a c vl l', e = .returned (.tuple #[ansVal 5 ByteArray.empty 0 (.slice a xs.length c), .bool true]) ∧ IsLfs (.slice a xs.length c) xs vl ∧ IsStore l' sb S ∧ Step w0 [] w' (l' ++ (vl ++ r))

set_option maxRecDepth 100000 in
set_option maxHeartbeats 2000000 in
theorem do_MGET {w0 w : World} {l r : Hp} {sb : Nat} {S : St} {g off : Nat} {c : ByteArray} {k : ByteArray} {ws : List ByteArray} (h : Ctx w0 w l r sb S g off (c :: k :: ws)) (hc : wcheck (c :: k :: ws) = (spMGET, ByteArray.empty)) (now : Int) (cap : Nat) (hcap : (c :: k :: ws).length ≤ cap) (hcap2 : cap ≤ 9223372036854775807) (hfew : (c :: k :: ws).length ≤ 1000) :
    Calls Tryz.prog 17 #[ptr sb, .int .i64 now, .slice (some ⟨g, off, none⟩) (c :: k :: ws).length cap] w (MDoPost w0 r sb (tMany S now (k :: ws)).1 (tMany S now (k :: ws)).2) := by
  have H := h.alloc ZeroVal
  have hchk := check_some H.st (H.args.more (x := l)) cap
  rw [hc] at hchk
  clear hc
  unfold CheckPost Sp.val specVal spMGET at hchk
  simp only at hchk
  generalize hT : tMany S now (k :: ws) = T
  replace hT := hid hT
  have hx : ∀ (w' : World) (x : Hp), Step w0 [] w' (l ++ (x ++ r)) → Ctx w0 w' l (x ++ r) sb S g (off + 1) (k :: ws) := fun w' x hS => (h.at (x := x) rfl hS).tail
  have hn : 1 < (c :: k :: ws).length := by simp only [List.length_cons]; omega
  obtain ⟨n, hlen⟩ : ∃ n, (c :: k :: ws).length = n := ⟨_, rfl⟩
  have hlen1 : (k :: ws).length = n - 1 := by rw [← hlen]; simp only [List.length_cons]; omega
  have hcap' : n ≤ cap := by rw [← hlen]; exact hcap
  rw [hlen] at hchk hn ⊢
  have hc1 : ¬ cap - 1 = 0 := by omega
  have hn3 : (1 : Int) < (n : Int) := by omega
  have hn4 : 0 < n := by omega
  replace hlen := hid hlen
  replace hlen1 := hid hlen1
  replace hchk := hid hchk
  replace hx := hid hx
  replace hcap := hid hcap
  clear h H
  go_enter Tryz.func17, Tryz.ntmps17
  go_wp2_with fail
  refine hchk.out.mono ?_
  rintro e w2 ⟨rfl, S2⟩
  clear hchk
  go_upto_region 2 with fail
  have S3 := S2.alloc (.cells #[.string ⟨#[77, 71, 69, 84]⟩, .int .i64 1, .int .i64 2, .int .i64 64, .int .i64 1, .int .i64 (-1), .int .i64 1] 65)
  generalize hw3 : w2.alloc _ = w3
  replace S3 : Step w0 [] w3 _ := hw3 ▸ S3
  clear hw3 S2
  generalize w2.heap.size = b1 at S3 ⊢
  generalize w.heap.size = b at S3 ⊢
  have nm := cells_get S3.own.head 0
  simp only [List.getElem?_toArray, List.getElem?_cons_zero] at nm
  go_upto_region 5 with fail
  have S4 := S3.alloc (JobObj sb now g (off + 1) (n - 1) (cap - 1))
  generalize hw4 : w3.alloc _ = w4
  replace S4 : Step w0 [] w4 _ := hw4 ▸ S4
  clear hw4 S3 nm
  generalize w3.heap.size = b2 at S4 ⊢
  have nm := cells_get S4.own.tail.head 0
  simp only [List.getElem?_toArray, List.getElem?_cons_zero] at nm
  obtain ⟨j0, j1, j2⟩ := jobAt S4.own.head
  obtain ⟨X, hX⟩ : ∃ X : Hp, X = [(b2, JobObj sb now g (off + 1) (n - 1) (cap - 1)), (b1, .cells #[.string ⟨#[77, 71, 69, 84]⟩, .int .i64 1, .int .i64 2, .int .i64 64, .int .i64 1, .int .i64 (-1), .int .i64 1] 65 (0, 0)), (b, ZeroVal)] := ⟨_, rfl⟩
  have S5 : Step w0 [] w4 (l ++ (X ++ r)) := S4.permR (perm_by fun f => by
    rw [hX]; simp only [List.map_append, List.sum_append, List.map_cons, List.sum_cons, List.map_nil, List.sum_nil]; omega)
  have hend : Hid (∀ (w' : World) (l3 : Hp), Step w0 [] w' (l3 ++ (X ++ r)) → Step w0 [] w' ((b, ZeroVal) :: (l3 ++ r ++ [(b2, JobObj sb now g (off + 1) (n - 1) (cap - 1)), (b1, .cells #[.string ⟨#[77, 71, 69, 84]⟩, .int .i64 1, .int .i64 2, .int .i64 64, .int .i64 1, .int .i64 (-1), .int .i64 1] 65 (0, 0))]))) := hid fun w' l3 h => h.permR (perm_by fun f => by
    rw [hX]; simp only [List.map_append, List.sum_append, List.map_cons, List.sum_cons, List.map_nil, List.sum_nil]; omega)
  clear S4
  replace hX := hid hX
  have hj := many_job (hx.out w4 X S5) (by have := hfew; simp only [List.length_cons] at this ⊢; omega) now (cap - 1)
  rw [hlen1.out, hT.out] at hj
  unfold jobVal at hj
  replace hj := hid hj
  clear S5 hx hT
  go_wp2_with fail
  refine hj.out.mono ?_
  rintro e w5 ⟨v, vl, l5, rfl, hvl, hX5, S6⟩
  have S7 := hend.out w5 (l5 ++ vl) (S6.permR (perm_by fun f => by simp only [List.map_append, List.sum_append]; omega))
  obtain ⟨a2, cc, rfl, _, _⟩ := hvl.form
  obtain ⟨⟨c0, hc0⟩, ⟨c1, hc1⟩, ⟨c2, hc2⟩, ⟨c3, hc3⟩, ⟨c4, hc4⟩, ⟨c5, hc5⟩, fz, hlt⟩ := cells6' S7.own.head
  have S9 := hid ((((((((S7.set 0 (.int .i64 5)).set 1 (.string ByteArray.empty)).set 2 (.int .i64 0)).set 3 (.float .f64 0)).set 4 (.bool false)).set 5 (.slice a2 T.2.length cc)).less (List.sublist_cons_self _ _)).less (List.sublist_append_left _ _))
  replace hvl := hid hvl
  clear hj S6 S7 hend
  obtain ⟨na, hna⟩ : ∃ na, na = T.2.length := ⟨_, rfl⟩
  rw [← hna] at S9 hvl ⊢
  replace hna := hid hna
  unfold ansVal
  go_wp2_with fail
  refine bodyPost_ret (v := .tuple #[ansVal 5 ByteArray.empty 0 (.slice a2 na cc), .bool true]) (by simp [results, Tryz.results17, go_sem, ansVal, *] <;> rfl) rfl ?_
  have h1 := hvl.out
  have h2 := S9.out
  rw [hna.out] at h1 h2 ⊢
  exact ⟨_, _, vl, l5, rfl, h1, hX5, by rw [List.append_assoc] at h2; exact h2⟩

set_option maxRecDepth 100000 in
set_option maxHeartbeats 2000000 in
theorem do_MSETw {w0 w : World} {l r : Hp} {sb : Nat} {S : St} {g off : Nat} {c : ByteArray} {k : ByteArray} {ws : List ByteArray} (h : Ctx w0 w l r sb S g off (c :: k :: ws)) (hc : wcheck (c :: k :: ws) = (spMSET, ByteArray.empty)) (now : Int) (cap : Nat) (hcap : (c :: k :: ws).length ≤ cap) (hcap2 : cap ≤ 9223372036854775807) (hfew : (c :: k :: ws).length ≤ 1000) :
    Calls Tryz.prog 17 #[ptr sb, .int .i64 now, .slice (some ⟨g, off, none⟩) (c :: k :: ws).length cap] w (DoPost w0 r sb (tPairs S now (k :: ws)).1 (tPairs S now (k :: ws)).2) := by
  have H := h.alloc ZeroVal
  have hchk := check_some H.st (H.args.more (x := l)) cap
  rw [hc] at hchk
  clear hc
  unfold CheckPost Sp.val specVal spMSET at hchk
  simp only at hchk
  generalize hT : tPairs S now (k :: ws) = T
  replace hT := hid hT
  have hx : ∀ (w' : World) (x : Hp), Step w0 [] w' (l ++ (x ++ r)) → Ctx w0 w' l (x ++ r) sb S g (off + 1) (k :: ws) := fun w' x hS => (h.at (x := x) rfl hS).tail
  have hn : 1 < (c :: k :: ws).length := by simp only [List.length_cons]; omega
  obtain ⟨n, hlen⟩ : ∃ n, (c :: k :: ws).length = n := ⟨_, rfl⟩
  have hlen1 : (k :: ws).length = n - 1 := by rw [← hlen]; simp only [List.length_cons]; omega
  have hcap' : n ≤ cap := by rw [← hlen]; exact hcap
  rw [hlen] at hchk hn ⊢
  have hc1 : ¬ cap - 1 = 0 := by omega
  have hn3 : (1 : Int) < (n : Int) := by omega
  have hn4 : 0 < n := by omega
  replace hlen := hid hlen
  replace hlen1 := hid hlen1
  replace hchk := hid hchk
  replace hx := hid hx
  replace hcap := hid hcap
  clear h H
  go_enter Tryz.func17, Tryz.ntmps17
  go_wp2_with fail
  refine hchk.out.mono ?_
  rintro e w2 ⟨rfl, S2⟩
  clear hchk
  go_upto_region 2 with fail
  have S3 := S2.alloc (.cells #[.string ⟨#[77, 83, 69, 84]⟩, .int .i64 2, .int .i64 3, .int .i64 64, .int .i64 1, .int .i64 (-1), .int .i64 2] 65)
  generalize hw3 : w2.alloc _ = w3
  replace S3 : Step w0 [] w3 _ := hw3 ▸ S3
  clear hw3 S2
  generalize w2.heap.size = b1 at S3 ⊢
  generalize w.heap.size = b at S3 ⊢
  have nm := cells_get S3.own.head 0
  simp only [List.getElem?_toArray, List.getElem?_cons_zero] at nm
  go_upto_region 5 with fail
  have S4 := S3.alloc (JobObj sb now g (off + 1) (n - 1) (cap - 1))
  generalize hw4 : w3.alloc _ = w4
  replace S4 : Step w0 [] w4 _ := hw4 ▸ S4
  clear hw4 S3 nm
  generalize w3.heap.size = b2 at S4 ⊢
  have nm := cells_get S4.own.tail.head 0
  simp only [List.getElem?_toArray, List.getElem?_cons_zero] at nm
  obtain ⟨j0, j1, j2⟩ := jobAt S4.own.head
  obtain ⟨X, hX⟩ : ∃ X : Hp, X = [(b2, JobObj sb now g (off + 1) (n - 1) (cap - 1)), (b1, .cells #[.string ⟨#[77, 83, 69, 84]⟩, .int .i64 2, .int .i64 3, .int .i64 64, .int .i64 1, .int .i64 (-1), .int .i64 2] 65 (0, 0)), (b, ZeroVal)] := ⟨_, rfl⟩
  have S5 : Step w0 [] w4 (l ++ (X ++ r)) := S4.permR (perm_by fun f => by
    rw [hX]; simp only [List.map_append, List.sum_append, List.map_cons, List.sum_cons, List.map_nil, List.sum_nil]; omega)
  have hend : Hid (∀ (w' : World) (l3 : Hp), Step w0 [] w' (l3 ++ (X ++ r)) → Step w0 [] w' ((b, ZeroVal) :: (l3 ++ r ++ [(b2, JobObj sb now g (off + 1) (n - 1) (cap - 1)), (b1, .cells #[.string ⟨#[77, 83, 69, 84]⟩, .int .i64 2, .int .i64 3, .int .i64 64, .int .i64 1, .int .i64 (-1), .int .i64 2] 65 (0, 0))]))) := hid fun w' l3 h => h.permR (perm_by fun f => by
    rw [hX]; simp only [List.map_append, List.sum_append, List.map_cons, List.sum_cons, List.map_nil, List.sum_nil]; omega)
  clear S4
  replace hX := hid hX
  have hj := pairs_job (hx.out w4 X S5) (by have := hfew; simp only [List.length_cons] at this ⊢; omega) now (cap - 1)
  rw [hlen1.out, hT.out] at hj
  unfold jobVal lfVal ansVal at hj
  replace hj := hid hj
  clear S5 hx hT
  go_wp2_with fail
  refine hj.out.mono ?_
  rintro e w5 ⟨rfl, l5, hX5, S6⟩
  have S7 := hend.out w5 l5 S6
  obtain ⟨⟨c0, hc0⟩, ⟨c1, hc1⟩, ⟨c2, hc2⟩, ⟨c3, hc3⟩, ⟨c4, hc4⟩, ⟨c5, hc5⟩, fz, hlt⟩ := cells6' S7.own.head
  have S9 := hid ((S7.setLf T.2).less (List.sublist_append_left _ _))
  clear hj S6 S7 hend
  go_wp2_with fail
  refine bodyPost_ret (v := .tuple #[lfVal T.2, .bool true]) (by simp [results, Tryz.results17, go_sem, lfVal, ansVal, *] <;> rfl) rfl ?_
  exact ⟨rfl, l5, hX5, S9.out⟩

end Go.Proofs.YtkmjlpmepggciaaGreatDoor

namespace Go.Proofs.YtkmjlpmepggciaaGreatDoor
open Go Go.RowKit

abbrev wMSET : ByteArray := ⟨#[77, 83, 69, 84]⟩
abbrev wMGET : ByteArray := ⟨#[77, 71, 69, 84]⟩

theorem lfs_form {a : Option Addr} {k c : Nat} {xs : List Lf} {vl : Hp} (h : IsLfs (.slice a k c) xs vl) (h0 : 0 < xs.length) : ∃ g rest, a = some ⟨g, 0, none⟩ ∧ vl = [(g, .cells (lfCells xs ++ rest).toArray 29 (0, 0))] := by
  obtain ⟨n, hn⟩ : ∃ n, n = xs.length := ⟨_, rfl⟩
  obtain ⟨ys, hy⟩ : ∃ ys, ys = lfCells xs := ⟨_, rfl⟩
  obtain ⟨v, hv⟩ : ∃ v, v = Value.slice a k c := ⟨_, rfl⟩
  unfold IsLfs at h
  rw [← hn, ← hy, ← hv] at h
  cases h with
  | nil => omega
  | laid g n cap xs rest h1 h2 h3 h4 =>
    simp only [Value.slice.injEq] at hv
    subst hy
    exact ⟨g, rest, hv.1.symm, rfl⟩
theorem zeroString (w : World) : (zeroValue 9).run Tryz.prog w = .ok (.string ByteArray.empty) w := by kernel_rfl

theorem many_check1 (l : List (ByteArray × ByteArray)) (h0 : 0 < l.length) (h : l.length ≤ 30) : wcheck (wMSET :: flat l) = (spMSET, ByteArray.empty) := by
  have hf : wfind wMSET = some spMSET := by kernel_rfl
  have hlen : ((wMSET :: flat l).length : Int) = 1 + 2 * (l.length : Int) := by rw [List.length_cons, flat_length]; omega
  have e2 : ¬ (1 + 2 * (l.length : Int)).tmod 2 = 0 := by
    rw [Int.tmod_eq_emod_of_nonneg (by omega)]; omega
  have ho : isOdd spMSET.name ((wMSET :: flat l).length : Int) = false := by
    have a2 : decide (spMSET.name.toList = [72, 83, 69, 84]) = false := by decide +kernel
    rw [hlen, isOdd, decide_eq_false e2, Bool.and_false, a2]
    rfl
  have h1 : ¬ (((wMSET :: flat l).length : Int) < spMSET.least ∨ spMSET.most < ((wMSET :: flat l).length : Int) ∨ isOdd spMSET.name ((wMSET :: flat l).length : Int) = true) := by
    have a : spMSET.least = 3 := rfl
    have b : spMSET.most = 64 := rfl
    rw [ho, hlen, a, b]
    simp only [Bool.false_eq_true, or_false]
    omega
  rw [wcheck]
  simp only [hf]
  rw [if_neg h1]
theorem many_check2 (ks : List ByteArray) (h0 : 0 < ks.length) (h : ks.length ≤ 30) : wcheck (wMGET :: ks) = (spMGET, ByteArray.empty) := by
  have hf : wfind wMGET = some spMGET := by kernel_rfl
  have hlen : ((wMGET :: ks).length : Int) = 1 + (ks.length : Int) := by rw [List.length_cons]; omega
  have ho : isOdd spMGET.name ((wMGET :: ks).length : Int) = false := by
    have a : decide (spMGET.name.toList = [77, 83, 69, 84]) = false := by decide +kernel
    have b : decide (spMGET.name.toList = [72, 83, 69, 84]) = false := by decide +kernel
    rw [isOdd, a, b]; rfl
  have h1 : ¬ (((wMGET :: ks).length : Int) < spMGET.least ∨ spMGET.most < ((wMGET :: ks).length : Int) ∨ isOdd spMGET.name ((wMGET :: ks).length : Int) = true) := by
    have a : spMGET.least = 2 := rfl
    have b : spMGET.most = 64 := rfl
    rw [ho, hlen, a, b]
    simp only [Bool.false_eq_true, or_false]
    omega
  rw [wcheck]
  simp only [hf]
  rw [if_neg h1]
theorem flat_small {l : List (ByteArray × ByteArray)} (h : ∀ p ∈ l, p.1.size ≤ 500 ∧ p.2.size ≤ 1000) : ∀ s ∈ flat l, s.size ≤ 1099511627776 := by
  induction l with
  | nil => intro s hs; simp [flat] at hs
  | cons p l ih =>
    intro s hs
    have hp := h p (by simp)
    simp only [flat, List.mem_cons] at hs
    rcases hs with rfl | rfl | hs
    · omega
    · omega
    · exact ih (fun q hq => h q (by simp [hq])) s hs

set_option maxRecDepth 100000 in
set_option maxHeartbeats 4000000 in
theorem lawMany_some {w0 w : World} {r : Hp} (hS : Step w0 [] w r) (hG : Glob w0) (g off : Nat) (l : List (ByteArray × ByteArray)) (cap : Nat) (hp : PairsAt w0 g off l) (hb : g < w0.heap.size) (hcap : l.length ≤ cap) (hcap2 : cap ≤ 9223372036854775807) :
    Calls Tryz.prog 7 #[.slice (some ⟨g, off, none⟩) l.length cap] w (fun e w' => e = .returned (.bool true) ∧ Step w0 [] w' r) := by
  have halive := hid (alive_any hS hG)
  replace hG := hid hG
  obtain ⟨n, hn⟩ : ∃ n, n = l.length := ⟨_, rfl⟩
  rw [← hn] at hcap ⊢
  have hpa : Hid (∀ (w' : World) (x : Hp), Step w0 [] w' x → PairsAt w' g off l) := hid fun w' x h => hp.step hb h
  clear hS hp hb
  have hmm := @run_makeMap Tryz.prog
  replace hn := hid hn
  go_enter Tryz.func7, Tryz.ntmps7
  go_wp2_with fail
  refine halive.out.mono ?_
  rintro e w0' ⟨rfl, S0⟩
  clear halive
  replace S0 := hid S0
  by_cases h0 : n = 0
  · subst h0
    go_wp2_with fail
    go_ret
    exact ⟨rfl, S0.out⟩
  by_cases h30 : 30 < n
  · have h30b : (30 : Int) < (n : Int) := by omega
    have h0b : ¬ (n : Int) = 0 := by omega
    go_wp2_with fail
    go_ret
    exact ⟨rfl, S0.out⟩
  have h30b : ¬ (30 : Int) < (n : Int) := by omega
  have h0b : ¬ (n : Int) = 0 := by omega
  have h0c : ((n : Int) == 0) = false := by simpa using h0b
  have S1 : Step w0 [] (((w0'.alloc (.cells #[.string ⟨#[77, 83, 69, 84]⟩] 9)).alloc (.cells #[.string ⟨#[77, 71, 69, 84]⟩] 9)).alloc (.map #[] 0)) ((w0'.heap.size + 1 + 1, .map #[] 0) :: (w0'.heap.size + 1, WsObj [wMGET]) :: (w0'.heap.size, WsObj [wMSET]) :: r) := by
    have h := ((S0.out.alloc (.cells #[.string ⟨#[77, 83, 69, 84]⟩] 9)).alloc (.cells #[.string ⟨#[77, 71, 69, 84]⟩] 9)).alloc (.map #[] 0)
    simp only [World.size_alloc] at h
    exact h
  clear S0
  go_wp2_with fail
  generalize hw : World.alloc (World.alloc (w0'.alloc _) _) _ = wl at S1 ⊢
  clear hw
  generalize w0'.heap.size = sb0 at S1 ⊢
  generalize hmb : sb0 + 1 + 1 = mb at S1 ⊢
  have S2 : Hid (Step w0 [] wl ([(sb0, WsObj [wMSET])] ++ ([(sb0 + 1, WsObj [wMGET])] ++ ((mb, .map #[] 0) :: r)))) := hid (S1.permR (perm_by fun f => by
    simp only [List.map_append, List.sum_append, List.map_cons, List.sum_cons, List.map_nil, List.sum_nil]; omega))
  clear S1 hmb
  go_loopw [3, 4, 7, 30] (fun s3 s4 s7 s30 wr => ∃ (k n1 n2 : Nat) (va vb : Option Addr) (c1 c2 : Nat) (sl1 sl2 : Hp) (o : Obj), s3 = .slice va n1 c1 ∧ s4 = .slice vb n2 c2 ∧ s30 = .int .i64 k ∧ k ≤ n ∧ Hid (n1 = 1 + 2 * k ∧ n2 = 1 + k) ∧ Hid (IsWs (.slice va n1 c1) (wMSET :: flat (l.take k)) sl1) ∧ Hid (IsWs (.slice vb n2 c2) (wMGET :: (l.take k).map Prod.fst) sl2) ∧ Hid (StrMap o (strs (lastMap [] (l.take k)))) ∧ Hid (∀ p ∈ l.take k, p.1.size ≤ 500 ∧ p.2.size ≤ 1000) ∧ Hid (Step w0 [] wr (sl1 ++ (sl2 ++ ((mb, o) :: r))))) (fun s3 s4 s7 s30 wr => (n - intOf s30).toNat)
  case atStart => exact ⟨0, 1, 1, _, _, _, _, _, _, _, rfl, rfl, rfl, Nat.zero_le _, hid ⟨rfl, rfl⟩, hid (IsWs.one _ _), hid (IsWs.one _ _), hid StrMap.empty, hid (fun p hp => by simp at hp), S2⟩
  case round =>
    obtain ⟨k, n1, n2, va, vb, c1, c2, sl1, sl2, o, rfl, rfl, rfl, hk, hnn, hw1, hw2, hsm, hsz, S3⟩ := hrel
    clear S2
    by_cases hlt : k < n
    · obtain ⟨p, hpk⟩ : ∃ p, l[k]? = some p := ⟨l[k]'(by rw [← hn.out]; exact hlt), List.getElem?_eq_getElem _⟩
      obtain ⟨p0, p1⟩ := hpa.out wr _ S3.out k p hpk
      have htk : Hid (l.take (k + 1) = l.take k ++ [p]) := hid (by rw [List.take_add_one, hpk]; rfl)
      replace hpk := hid hpk
      have hlt3 : (k : Int) < (n : Int) := by omega
      have S9 : Hid (Step w0 [] (wr.alloc (.cells #[.string p.1, .string p.2] 53)) r) := hid ((S3.out.alloc (.cells #[.string p.1, .string p.2] 53)).pick (l2 := r) (m := (wr.heap.size, .cells #[.string p.1, .string p.2] 53 (0, 0)) :: (sl1 ++ (sl2 ++ [(mb, o)]))) (perm_by fun f => by
        simp only [List.map_append, List.sum_append, List.map_cons, List.sum_cons, List.map_nil, List.sum_nil]; omega))
      by_cases e1 : 500 < p.1.size
      · have e1b : (500 : Int) < (p.1.size : Int) := by omega
        clear S3
        go_wp2_with fail
        go_ret
        exact ⟨rfl, S9.out⟩
      have e1b : ¬ (500 : Int) < (p.1.size : Int) := by omega
      by_cases e2 : 1000 < p.2.size
      · have e2b : (1000 : Int) < (p.2.size : Int) := by omega
        clear S3
        go_wp2_with fail
        go_ret
        exact ⟨rfl, S9.out⟩
      have e2b : ¬ (1000 : Int) < (p.2.size : Int) := by omega
      clear S9
      go_upto_region 12 with fail
      have S4 := S3.out.alloc (.cells #[.string p.1, .string p.2] 53)
      generalize hw : wr.alloc _ = w1 at S4 ⊢
      clear hw S3 p0 p1
      generalize wr.heap.size = pb at S4 ⊢
      have S5 : Step w0 [] (w1.alloc (.cells #[.string p.1, .string p.2] 9)) ((w1.heap.size, WsObj [p.1, p.2]) :: _) := S4.alloc (.cells #[.string p.1, .string p.2] 9)
      obtain ⟨va2, c12, w2, sl12, hrun, hw12, S6⟩ := push_ws (nb := w1.heap.size) (r := (w1.heap.size, WsObj [p.1, p.2]) :: (pb, .cells #[.string p.1, .string p.2] 53 (0, 0)) :: (sl2 ++ ((mb, o) :: r))) (S5.permR (perm_by fun f => by
        simp only [List.map_append, List.sum_append, List.map_cons, List.sum_cons]; omega)) hw1.out (by rw [List.length_cons, flat_length, List.length_take, ← hn.out]; have := hnn.out.1; omega) (by have := hnn.out.1; omega) [p.1, p.2] (by simp) (by simp) (by simp)
      have q0 : w1.cell? ⟨pb, 0, none⟩ = some (.string p.1) := cells_get S4.own.head 0
      have q1 : w1.cell? ⟨pb, 1, none⟩ = some (.string p.2) := cells_get S4.own.head 1
      simp only [List.length_cons, List.length_nil, Nat.zero_add] at hrun
      replace hrun := hid hrun
      clear S4 S5
      replace S6 := hid S6
      replace hw12 := hid hw12
      go_upto_region 13 with (at_builtin; refine wpList_append_run rfl _ _ _ _ rfl _ _ rfl rfl hrun.out ?_)
      clear q0 q1 hrun
      have q0 : w2.cell? ⟨pb, 0, none⟩ = some (.string p.1) := cells_get S6.out.own.right.tail.head 0
      have q1 : w2.cell? ⟨pb, 1, none⟩ = some (.string p.2) := cells_get S6.out.own.right.tail.head 1
      have S7 : Step w0 [] (w2.alloc (.cells #[.string p.1] 9)) ((w2.heap.size, WsObj [p.1]) :: _) := S6.out.alloc (.cells #[.string p.1] 9)
      obtain ⟨vb2, c22, w3, sl22, hrun, hw22, S8⟩ := push_ws (nb := w2.heap.size) (sl := sl2) (r := (w2.heap.size, WsObj [p.1]) :: (w1.heap.size, WsObj [p.1, p.2]) :: (pb, .cells #[.string p.1, .string p.2] 53 (0, 0)) :: (sl12 ++ ((mb, o) :: r))) (S7.permR (perm_by fun f => by
        simp only [List.map_append, List.sum_append, List.map_cons, List.sum_cons]; omega)) hw2.out (by rw [List.length_cons, List.length_map, List.length_take, ← hn.out]; have := hnn.out.2; omega) (by have := hnn.out.2; omega) [p.1] (by simp) (by simp) (by simp)
      simp only [List.length_cons, List.length_nil, Nat.zero_add] at hrun
      replace hrun := hid hrun
      clear S6 S7
      replace hw22 := hid hw22
      go_upto_region 14 with (at_builtin; refine wpList_append_run rfl _ _ _ _ rfl _ _ rfl rfl hrun.out ?_)
      clear q0 q1 hrun
      have q0 : w3.cell? ⟨pb, 0, none⟩ = some (.string p.1) := cells_get S8.own.right.tail.tail.head 0
      have q1 : w3.cell? ⟨pb, 1, none⟩ = some (.string p.2) := cells_get S8.own.right.tail.tail.head 1
      have hob : w3.heap[mb]? = some o := S8.own.right.tail.tail.tail.right.head
      obtain ⟨o', hup, hm'⟩ := run_put (P := Tryz.prog) (t := 52) Tryz.underlying52 Tryz.underlying9 hob hsm.out (by rw [strs_fst]; exact lastMap_nd _ List.nodup_nil) p.1 (.string p.2)
      obtain ⟨w4, hw4⟩ : ∃ w4 : World, w4 = { w3 with heap := w3.heap.setIfInBounds mb o' } := ⟨_, rfl⟩
      rw [← hw4] at hup
      have S10 : Step w0 [] w4 ((mb, o') :: (sl22 ++ ((w2.heap.size, WsObj [p.1]) :: (w1.heap.size, WsObj [p.1, p.2]) :: (pb, .cells #[.string p.1, .string p.2] 53 (0, 0)) :: (sl12 ++ r)))) := (S8.permR (l2 := (mb, o) :: (sl22 ++ ((w2.heap.size, WsObj [p.1]) :: (w1.heap.size, WsObj [p.1, p.2]) :: (pb, .cells #[.string p.1, .string p.2] 53 (0, 0)) :: (sl12 ++ r)))) (perm_by fun f => by
        simp only [List.map_append, List.sum_append, List.map_cons, List.sum_cons]; omega)).obj hw4
      have S11 := hid (S10.pick (l2 := sl12 ++ (sl22 ++ ((mb, o') :: r))) (m := [(w2.heap.size, WsObj [p.1]), (w1.heap.size, WsObj [p.1, p.2]), (pb, .cells #[.string p.1, .string p.2] 53 (0, 0))]) (perm_by fun f => by
        simp only [List.map_append, List.sum_append, List.map_cons, List.sum_cons, List.map_nil, List.sum_nil]; omega))
      rw [strs_put] at hm'
      have hm2 : Hid (StrMap o' (strs (lastMap [] (l.take (k + 1))))) := hid (by rw [htk.out, lastMap_append]; exact hm')
      have hnn2 : Hid (n1 + 2 = 1 + 2 * (k + 1) ∧ n2 + 1 = 1 + (k + 1)) := hid (by have := hnn.out; omega)
      have hw13 : Hid (IsWs (.slice va2 (n1 + 2) c12) (wMSET :: flat (l.take (k + 1))) sl12) := hid (by rw [htk.out, flat_append]; exact hw12.out)
      have hw23 : Hid (IsWs (.slice vb2 (n2 + 1) c22) (wMGET :: (l.take (k + 1)).map Prod.fst) sl22) := hid (by rw [htk.out, List.map_append]; exact hw22.out)
      have hsz2 : Hid (∀ p ∈ l.take (k + 1), p.1.size ≤ 500 ∧ p.2.size ≤ 1000) := hid (by
        rw [htk.out]
        intro x hx
        rcases List.mem_append.1 hx with hx | hx
        · exact hsz.out x hx
        · simp only [List.mem_cons, List.not_mem_nil, or_false] at hx
          subst hx; omega)
      clear S8 S10 hw4 hm' hob hw12 hw22 hw1 hw2 hsm hsz hnn
      go_wp2_with fail
      go_roundw
      case rel => exact ⟨k + 1, n1 + 2, n2 + 1, va2, vb2, c12, c22, sl12, sl22, o', rfl, rfl, rfl, hlt, hnn2, hw13, hw23, hm2, hsz2, S11⟩
      case measure => simp [intOf]; omega
    · obtain rfl : k = n := by omega
      have hl : l.take k = l := by rw [hn.out, List.take_length]
      rw [hl] at hw1 hw2 hsm hsz
      obtain ⟨g1, cc1, rest1, hv1, rfl, hc1, hcb1⟩ := hw1.out.form (by simp)
      obtain ⟨g2, cc2, rest2, hv2, rfl, hc2, hcb2⟩ := hw2.out.form (by simp)
      simp only [Value.slice.injEq] at hv1 hv2
      obtain ⟨rfl, e1, rfl⟩ := hv1
      obtain ⟨rfl, e2, rfl⟩ := hv2
      obtain ⟨p, l', rfl⟩ : ∃ p l', l = p :: l' := by
        cases l with
        | nil => exact absurd hn.out h0
        | cons p l' => exact ⟨p, l', rfl⟩
      have hinv := tPairs_flat (p :: l') new_inv (by rw [← hn.out]; omega) hsz.out
      have hpt : tPairs (newSt 10000000) 0 (p.1 :: p.2 :: flat l') = ((tPairs (newSt 10000000) 0 (flat (p :: l'))).1, lfOk) := Prod.ext rfl hinv.1
      have hinv2 := hinv.2
      generalize (tPairs (newSt 10000000) 0 (flat (p :: l'))).1 = Sa at hpt hinv2
      rw [Nat.zero_add] at hinv2
      have hnew := hid (snew_any S3.out 10000000)
      rw [← e1] at hc1
      rw [← e2] at hc2
      have hk30 : Hid ((p :: l').length ≤ 30 ∧ 0 < (p :: l').length) := hid (by rw [← hn.out]; omega)
      replace hpt := hid hpt
      replace hinv2 := hid hinv2
      replace e1 := hid e1
      replace e2 := hid e2
      replace hc1 := hid hc1
      replace hc2 := hid hc2
      have hcb1' := hid hcb1
      have hcb2' := hid hcb2
      clear hinv S3 hw1 hw2 hcb1 hcb2
      go_wp2_with fail
      refine hnew.out.mono ?_
      rintro e w1 ⟨sb, l1, rfl, hX1, S4⟩
      clear hnew
      have C1 : Ctx w0 w1 l1 _ sb (newSt 10000000) g1 0 (wMSET :: p.1 :: p.2 :: flat l') := ⟨S4, hG.out, hX1, newSt_tight _, by decide, Args.ws (t := 9) (rest := rest1) (List.mem_append_left _ (List.mem_singleton.2 rfl)) (by
        intro s hs
        rcases List.mem_cons.1 hs with rfl | hs
        · decide
        · exact flat_small hsz.out s hs) (by have := e1.out; have h2 := hc1.out; have h3 := hk30.out.1; have h4 := flat_length (p :: l'); show (wMSET :: flat (p :: l')).length ≤ _; rw [List.length_cons]; omega)⟩
      have hdo := do_MSETw C1 (many_check1 (p :: l') hk30.out.2 hk30.out.1) 0 c1 (by have := e1.out; have h2 := hc1.out; show (wMSET :: flat (p :: l')).length ≤ _; omega) hcb1'.out (by have h3 := hk30.out.1; have h4 := flat_length (p :: l'); show (wMSET :: flat (p :: l')).length ≤ _; rw [List.length_cons]; omega)
      rw [hpt.out] at hdo
      have e3 : (wMSET :: p.1 :: p.2 :: flat l').length = n1 := e1.out.symm
      rw [e3] at hdo
      clear e3
      replace hdo := hid hdo
      clear C1 S4 hX1 hpt
      go_wp2_with fail
      refine hdo.out.mono ?_
      rintro e w2 ⟨rfl, l2, hX2, S5⟩
      clear hdo
      unfold lfVal ansVal
      go_upto_region 18 with fail
      replace S5 := S5.keepLf (LfObj lfOk)
      simp only [lfOk] at S5 ⊢
      generalize hw : w2.alloc _ = w2a at S5 ⊢
      clear hw
      generalize w2.heap.size = ab at S5 ⊢
      have hks : (p.1 :: l'.map Prod.fst).length = (p :: l').length := by simp
      have C2 : Ctx w0 w2a l2 _ sb Sa g2 0 (wMGET :: p.1 :: l'.map Prod.fst) := ⟨S5, hG.out, hX2, hinv2.out.tight (by have := hk30.out.1; omega), by have := hinv2.out.load; have := hk30.out.1; omega, Args.ws (t := 9) (rest := rest2) (List.mem_cons_of_mem _ (List.mem_append_right _ (List.mem_append_left _ (List.mem_singleton.2 rfl)))) (by
        intro s hs
        rcases List.mem_cons.1 hs with rfl | hs
        · decide
        · obtain ⟨x, hx, rfl⟩ := List.mem_map.1 (show s ∈ (p :: l').map Prod.fst from hs)
          have := (hsz.out x hx).1
          omega) (by rw [List.length_cons, hks]; have := hk30.out.1; omega)⟩
      have hdo := do_MGET C2 (many_check2 _ (by rw [hks]; exact hk30.out.2) (by rw [hks]; exact hk30.out.1)) 0 c2 (by rw [List.length_cons, hks]; have h1 := e2.out; have h2 := hc2.out; rw [List.length_cons, List.length_map] at h1; omega) hcb2'.out (by rw [List.length_cons, hks]; have := hk30.out.1; omega)
      have e3 : (wMGET :: p.1 :: l'.map Prod.fst).length = n2 := e2.out.symm
      rw [e3] at hdo
      clear e3
      have hall := tMany_all (p.1 :: l'.map Prod.fst) hinv2.out
      obtain ⟨Tb, hTb⟩ : ∃ T, T = tMany Sa 0 (p.1 :: l'.map Prod.fst) := ⟨_, rfl⟩
      rw [← hTb] at hdo hall
      obtain ⟨Sb, xs⟩ := Tb
      obtain ⟨hinv3, hxs⟩ := hall
      simp only at hdo hinv3 hxs
      have hxl : Hid (xs.length = k) := hid (by rw [hxs, List.length_map, hks, ← hn.out])
      replace hdo := hid hdo
      replace hxs := hid hxs
      replace hinv3 := hid hinv3
      clear C2 S5 hX2 hTb hks
      go_wp2_with fail
      refine hdo.out.mono ?_
      rintro e w3 ⟨a3, c3, vl, l3, rfl, hvl, hX3, S6⟩
      clear hdo
      rw [hxl.out] at hvl ⊢
      unfold ansVal
      go_upto_region 19 with fail
      have S7 := S6.alloc (.cells #[.int .i64 5, .string ByteArray.empty, .int .i64 0, .float .f64 0, .bool false, .slice a3 k c3] 29)
      generalize hw : w3.alloc _ = w3a at S7 ⊢
      clear hw S6
      generalize w3.heap.size = bb at S7 ⊢
      replace hvl := hid hvl
      obtain ⟨mm, rfl, hok, hfit⟩ := hX3
      obtain ⟨es, clock, rfl, hes⟩ := hsm.out
      obtain ⟨ml, hml⟩ : ∃ ml, ml = (lastMap [] (p :: l')).length := ⟨_, rfl⟩
      have hM : mm.M.length = ml := by
        have h1 := hok.num.length_eq
        have h2 := congrArg List.length hok.cells
        have h3 := hinv3.out.len
        rw [List.length_map] at h1 h2
        omega
      have hez : es.size = ml := by
        have h1 := congrArg List.length hes
        simp only [List.length_map, strs, Array.length_toList] at h1
        omega
      have htl := tlen_any mm.tl mm.tb mm.M 0 w3a hok.tab (SM.ownT S7.own.tail)
      rw [hM] at htl
      replace htl := hid htl
      have t0 : w3a.cell? ⟨sb, 0, none⟩ = some (ptr mm.tb) := (stCells S7.own.tail).c0
      obtain ⟨x0, x1, x2, x3, x4, x5⟩ := lfAt (S7.own.at_ (ab, LfObj ⟨1, ⟨#[79, 75]⟩, 0⟩) (by simp))
      have y5 : w3a.cell? ⟨bb, 5, none⟩ = some (.slice a3 k c3) := cells_get S7.own.head 5
      have hmu : Tryz.prog.underlying 52 = some (.map (Tryz.prog.mapKeyOf 52) (Tryz.prog.mapElemOf 52)) := by kernel_rfl
      replace hmu := hid hmu
      replace hez := hez
      replace S7 := hid S7
      replace hinv3 := hid hinv3.out
      replace hM := hid hM
      replace hml := hid hml
      clear hok hfit
      go_wp2_with fail
      refine htl.out.mono ?_
      rintro e w4 ⟨rfl, nd, hw4⟩
      have S8 := S7.out.drewN nd
      rw [← hw4] at S8
      clear hw4 htl S7 t0 x0 x1 x2 x3 x4 x5 y5
      have y5 : w4.cell? ⟨bb, 5, none⟩ = some (.slice a3 k c3) := cells_get S8.own.head 5
      have hmo : w4.heap[mb]? = some (.map es clock) := S8.own.at_ (mb, .map es clock) (by simp)
      have hlm : ∀ ty, (Builtin.len_ #[52] ty #[.map (some mb)]).run Tryz.prog w4 = .ok (.int .i64 (ml : Int)) w4 := fun ty => (run_len_map (P := Tryz.prog) (w := w4) (t := 52) (ty := ty) (r := mb) (es := es) (clock := clock) (h := hmu.out) (hb := hmo)).trans (by rw [hez]; rfl)
      clear hmo hez
      have S9 := hid (S8.pick (l2 := vl ++ ((mb, .map es clock) :: r)) (m := (bb, .cells #[.int .i64 5, .string ByteArray.empty, .int .i64 0, .float .f64 0, .bool false, .slice a3 k c3] 29 (0, 0)) :: (mm.hp sb (bytesOf Sb.L) Sb.bud ++ [(ab, LfObj ⟨1, ⟨#[79, 75]⟩, 0⟩), (g1, .cells (List.map Value.string (wMSET :: flat (p :: l')) ++ rest1).toArray 9 (0, 0)), (g2, .cells (List.map Value.string (wMGET :: List.map Prod.fst (p :: l')) ++ rest2).toArray 9 (0, 0))])) (perm_by fun f => by
        simp only [List.map_append, List.sum_append, List.map_cons, List.sum_cons, List.map_nil, List.sum_nil]; omega))
      clear S8
      go_wp2_with fail
      clear y5 hlm
      go_loopw [13, 14, 99] (fun s13 s14 s99 wr => ∃ j : Nat, s99 = .int .i64 j ∧ j ≤ k ∧ Hid (Step w0 [] wr (vl ++ ((mb, .map es clock) :: r)))) (fun s13 s14 s99 wr => (k - intOf s99).toNat)
      case atStart => exact ⟨0, rfl, Nat.zero_le _, S9⟩
      case round =>
        obtain ⟨j, rfl, hj, S2⟩ := hrel
        clear S9
        by_cases hjk : j < k
        · obtain ⟨pj, hpj⟩ : ∃ pj, (p :: l')[j]? = some pj := ⟨(p :: l')[j]'(by rw [← hn.out]; exact hjk), List.getElem?_eq_getElem _⟩
          obtain ⟨tx, htx⟩ : ∃ tx, mlook (lastMap [] (p :: l')) pj.1 = some tx := Option.isSome_iff_exists.1 (lastMap_has _ _ _ (.inl (List.mem_map.2 ⟨pj, List.mem_of_getElem? hpj, rfl⟩)))
          have hxj : xs[j]? = some (lfText tx) := by
            have h1 : ((p :: l').map Prod.fst)[j]? = some pj.1 := by rw [List.getElem?_map, hpj]; rfl
            rw [hxs.out, List.getElem?_map, show (p.1 :: l'.map Prod.fst)[j]? = some pj.1 from h1, Option.map_some, htx]
            rfl
          obtain ⟨g3, rest3, rfl, rfl⟩ := lfs_form hvl.out (by rw [hxl.out]; omega)
          obtain ⟨f0, f1, f2, f3, f4, f5⟩ := lfIn S2.out.own.left.head hxj
          simp only [lfText] at f0 f1 f2
          have hjk3 : (j : Int) < (k : Int) := by omega
          replace hxj := hid hxj
          replace hpj := hid hpj
          go_upto_region 24 with fail
          have S3 := S2.out.alloc (.cells #[.int .i64 4, .string tx, .int .i64 0, .float .f64 0, .bool false, .slice none 0 0] 29)
          generalize hw : wr.alloc _ = w5 at S3 ⊢
          clear hw S2 f0 f1 f2 f3 f4 f5
          generalize wr.heap.size = vb at S3 ⊢
          have z0 : w5.cell? ⟨vb, 0, none⟩ = some (.int .i64 4) := cells_get S3.own.head 0
          have z1 : w5.cell? ⟨vb, 1, none⟩ = some (.string tx) := cells_get S3.own.head 1
          obtain ⟨p0, p1⟩ := hpa.out w5 _ S3 j pj hpj.out
          have hmo : w5.heap[mb]? = some (.map es clock) := S3.own.at_ (mb, .map es clock) (by simp)
          have hlk : ∀ m : Nat, (Instr.lookup 52 (.map (some mb)) (.string pj.1) false).run Tryz.prog (w5.drewN m) = .ok (.string tx) (w5.drewN m) := fun m => by
            have h := run_look1 (P := Tryz.prog) (t := 52) Tryz.underlying52 Tryz.underlying9 zeroString (w := w5.drewN m) (r := mb) (o := .map es clock) hmo ⟨es, clock, rfl, hes⟩ pj.1
            rw [strs_look, htx] at h
            exact h
          clear hmo
          have S10 := hid (S3.less (List.sublist_cons_self _ _))
          clear S3
          go_wp2_with fail
          go_big_quiet (fail)
          go_wp2_with fail
          go_roundw
          case rel => exact ⟨j + 1, rfl, hjk, hid (S10.out.drewN _)⟩
          case measure => simp [intOf]; omega
        · obtain rfl : j = k := by omega
          have S9 := hid (S2.out.pick (l2 := r) (m := vl ++ [(mb, .map es clock)]) (perm_by fun f => by
            simp only [List.map_append, List.sum_append, List.map_cons, List.sum_cons, List.map_nil, List.sum_nil]; omega))
          clear S2
          go_wp2_with fail
          go_ret
          exact ⟨rfl, S9.out⟩

/-- No pairs, wherever they would lie. -/
theorem lawMany_nil {w0 w : World} {r : Hp} (hS : Step w0 [] w r) (hG : Glob w0) (a : Option Addr) (cap : Nat) :
    Calls Tryz.prog 7 #[.slice a 0 cap] w (fun e w' => e = .returned (.bool true) ∧ Step w0 [] w' r) := by
  have halive := hid (alive_any hS hG)
  clear hS
  go_enter Tryz.func7, Tryz.ntmps7
  go_wp2_with fail
  refine halive.out.mono ?_
  rintro e w0' ⟨rfl, S0⟩
  clear halive
  replace S0 := hid S0
  go_wp2_with fail
  go_ret
  exact ⟨rfl, S0.out⟩

end Go.Proofs.YtkmjlpmepggciaaGreatDoor
