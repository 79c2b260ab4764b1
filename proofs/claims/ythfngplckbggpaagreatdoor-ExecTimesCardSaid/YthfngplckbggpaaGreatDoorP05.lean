/-
  recent: New, Touch, Drop, Oldest, by what they do to the keys in the order of their use.
  Slices that are owned: a value, its first cells, and the block that it owns; what append makes of one.
  Parts in another order: by sums; some of what is owned is picked out.
  A region that draws its order, whose operations only read what is owned, and whose calls leave all that is owned as it was (they may lay blocks of their own): walked once, in the order of the text.
-/
import Derived.Test.YthfngplckbggpaaGreatDoorP04
import Derived.LaidEqlPtr
import Derived.Test.YthfngplckbggpaaGreatDoorP01
set_option linter.unusedVariables false
set_option linter.unusedSimpArgs false
namespace Go.Proofs.YthfngplckbggpaaGreatDoor
open Go Go.RowKit

theorem mem_nodes {ns : List Nd} {q : Nat} (hq : q ∈ ns.map Prod.fst) (prev fin : Nat) : ∃ k a n, (q, LinkObj k a n) ∈ nodesHp prev ns fin := by
  induction ns generalizing prev with
  | nil => cases hq
  | cons p ns ih =>
    rcases List.mem_cons.1 hq with rfl | hq
    · exact ⟨_, _, _, List.mem_cons_self ..⟩
    · obtain ⟨k, a, n, h⟩ := ih hq p.1
      exact ⟨k, a, n, List.mem_cons_of_mem _ h⟩
theorem hd_mem (ns : List Nd) (r : Nat) : hd ns r = r ∨ hd ns r ∈ ns.map Prod.fst := by
  cases ns with
  | nil => exact .inl rfl
  | cons p ns => exact .inr (by simp [hd])
theorem lst_mem (ns : List Nd) (r : Nat) : lst ns r = r ∨ lst ns r ∈ ns.map Prod.fst := by
  induction ns generalizing r with
  | nil => exact .inl rfl
  | cons p ns ih =>
    rcases ih p.1 with h | h
    · exact .inr (by rw [lst_cons, h]; simp)
    · exact .inr (by rw [lst_cons]; simp [h])
theorem keys_nodes (ns : List Nd) (x y : Nat) : keys (nodesHp x ns y) = ns.map Prod.fst := by
  induction ns generalizing x with
  | nil => rfl
  | cons p ns ih => simp [nodes_cons, ih]

structure LinkAt (w : World) (q : Nat) : Prop where
  c1 : ∃ x, w.cell? ⟨q, 1, none⟩ = some x
  c2 : ∃ x, w.cell? ⟨q, 2, none⟩ = some x
  fz : ∀ i, w.frozen? ⟨q, i, none⟩ = false
theorem ring_cells {w : World} {rb mb : Nat} {o : Obj} {ns : List Nd} {r : Hp} (h : Own w (RecHp rb mb o ns ++ r)) {q : Nat} (hq : q = rb ∨ q ∈ ns.map Prod.fst) : LinkAt w q := by
  rcases hq with rfl | hq
  · have := h.left.head
    exact ⟨⟨_, cells_get this 1⟩, ⟨_, cells_get this 2⟩, fun i => cells_free this i⟩
  · obtain ⟨k, a, n, hm⟩ := mem_nodes hq rb rb
    have := h.left.at_ _ (List.mem_cons_of_mem _ (List.mem_cons_of_mem _ hm))
    exact ⟨⟨_, cells_get this 1⟩, ⟨_, cells_get this 2⟩, fun i => cells_free this i⟩
theorem ring_node {w : World} {rb mb : Nat} {o : Obj} {a b : List Nd} {p : Nd} (h : Own w (RecHp rb mb o (a ++ p :: b))) : w.heap[p.1]? = some (LinkObj p.2 (lst a rb) (hd b rb)) := by
  refine h.at_ (p.1, _) ?_
  rw [RecHp, nodes_mid]
  simp

theorem rout_any {w0 w : World} {l : Hp} {rb mb : Nat} {o : Obj} {a b : List Nd} {p : Nd} (h : Step w0 l w (RecHp rb mb o (a ++ p :: b))) :
    Calls Tryz.prog 144 #[ptr p.1] w fun e w' => e = .returned (.tuple #[]) ∧ Step w0 l w' ((p.1, LinkObj p.2 (lst a rb) (hd b rb)) :: RecHp rb mb o (a ++ b)) := by
  have hn := ring_node h.own
  have ha := ring_cells (r := []) (by simpa using h.own) (q := lst a rb) ((lst_mem a rb).imp id (by intro h; simp at h ⊢; exact .inl h))
  have hb := ring_cells (r := []) (by simpa using h.own) (q := hd b rb) ((hd_mem b rb).imp id (by intro h; simp at h ⊢; exact .inr (.inr h)))
  obtain ⟨x, hx⟩ := ha.c2
  obtain ⟨y, hy⟩ := hb.c1
  refine (out_any p.1 (lst a rb) (hd b rb) x y w (cells_get hn 1) (cells_get hn 2) hx hy (ha.fz 2) (hb.fz 1)).mono ?_
  rintro e w' ⟨he, rfl⟩
  exact ⟨he, (ring_out h).drew⟩

theorem rlast_any {w0 w : World} {l : Hp} {rb mb : Nat} {o : Obj} {ns : List Nd} {b : Nat} {k : ByteArray} {x1 x2 : Value} (h : Step w0 l w ((b, .cells #[.string k, x1, x2] 100 (0, 0)) :: RecHp rb mb o ns)) :
    Calls Tryz.prog 145 #[ptr rb, ptr b] w fun e w' => e = .returned (.tuple #[]) ∧ Step w0 l w' (RecHp rb mb o (ns ++ [(b, k)])) := by
  have hb := h.own.head
  have hr := h.own.tail.head
  have hnd := h.own.nd
  simp only [keys_cons, RecHp, keys_nodes, List.nodup_cons, List.mem_cons, not_or] at hnd
  have hq := ring_cells (r := []) (by simpa using h.own.tail) (q := lst ns rb) (lst_mem ns rb)
  obtain ⟨y, hy⟩ := hq.c2
  have hnq : b ≠ lst ns rb := by
    intro e
    rcases lst_mem ns rb with h' | h'
    · exact hnd.1.1 (e.trans h')
    · exact hnd.1.2.2 (e ▸ h')
  refine (last_any rb b (lst ns rb) x1 x2 y w hnd.1.1 hnq (cells_get hb 1) (cells_get hb 2) (cells_get hr 1) hy (cells_free hb 1) (cells_free hb 2) (hq.fz 2) (cells_free hr 1)).mono ?_
  rintro e w' ⟨he, rfl⟩
  exact ⟨he, (ring_last h).drew.drew⟩

theorem zeroLink (w : World) : (zeroValue 98).run Tryz.prog w = .ok (.pointer none) w := by kernel_rfl

/-- Where a key stands, as the map tells it. -/
theorem mlook_perm {α : Type} {m m' : AL α} (hp : m.Perm m') (hn : (m.map Prod.fst).Nodup) (k : ByteArray) : mlook m k = mlook m' k := by
  have hn' : (m'.map Prod.fst).Nodup := (hp.map Prod.fst).nodup_iff.1 hn
  have key : ∀ (l : AL α), (l.map Prod.fst).Nodup → ∀ v, mlook l k = some v ↔ (k, v) ∈ l := by
    intro l hl v
    induction l with
    | nil => simp [mlook]
    | cons p l ih =>
      simp only [List.map_cons, List.nodup_cons] at hl
      simp only [mlook, List.find?_cons] at ih ⊢
      by_cases hk : p.1 = k
      · simp only [hk, decide_true, Option.map_some, Option.some.injEq, List.mem_cons]
        constructor
        · intro h; left; rw [← h, ← hk]
        · rintro (h | h)
          · rw [← h]
          · exact absurd (List.mem_map.2 ⟨_, h, rfl⟩) (hk ▸ hl.1)
      · simp only [hk, decide_false, List.mem_cons]
        rw [ih hl.2]
        constructor
        · exact .inr
        · rintro (h | h)
          · exact absurd (by rw [← h]) hk
          · exact h
  cases h1 : mlook m k with
  | some v => exact ((key m' hn' v).2 (hp.mem_iff.1 ((key m hn v).1 h1))).symm
  | none =>
    cases h2 : mlook m' k with
    | none => rfl
    | some v =>
      have := (key m hn v).2 (hp.mem_iff.2 ((key m' hn' v).1 h2))
      rw [h1] at this; cases this
theorem mlook_nodes (ns : List Nd) (key : ByteArray) : (mlook (ns.map ndPtr) key = none ∧ key ∉ ns.map Prod.snd) ∨ ∃ a p b, ns = a ++ p :: b ∧ p.2 = key ∧ mlook (ns.map ndPtr) key = some (ptr p.1) := by
  induction ns with
  | nil => exact .inl ⟨rfl, by simp⟩
  | cons q ns ih =>
    by_cases hq : q.2 = key
    · refine .inr ⟨[], q, ns, rfl, hq, ?_⟩
      simp [mlook, ndPtr, hq]
    · rcases ih with ⟨h1, h2⟩ | ⟨a, p, b, h1, h2, h3⟩
      · refine .inl ⟨?_, by simp only [List.map_cons, List.mem_cons, not_or]; exact ⟨fun e => hq e.symm, h2⟩⟩
        simpa [mlook, ndPtr, hq] using h1
      · refine .inr ⟨q :: a, p, b, by rw [h1]; rfl, h2, ?_⟩
        simpa [mlook, ndPtr, hq] using h3
theorem ndPtr_keys (ns : List Nd) : (ns.map ndPtr).map Prod.fst = ns.map Prod.snd := by simp [ndPtr, Function.comp_def]

def kdel (ks : List ByteArray) (k : ByteArray) : List ByteArray := ks.filter (fun x => decide (x ≠ k))
theorem kdel_mid {a b : List ByteArray} {k : ByteArray} (h : (a ++ k :: b).Nodup) : kdel (a ++ k :: b) k = a ++ b := by
  rw [List.nodup_append] at h
  have h2 := h.2.1
  rw [List.nodup_cons] at h2
  have ha : a.filter (fun x => decide (x ≠ k)) = a := by
    rw [List.filter_eq_self]; intro x hx; have := h.2.2 x hx k (by simp); simpa using this
  have hb : b.filter (fun x => decide (x ≠ k)) = b := by
    rw [List.filter_eq_self]; intro x hx; have : x ≠ k := fun e => h2.1 (e ▸ hx); simpa using this
  simp only [kdel, List.filter_append, List.filter_cons, ha, hb]
  simp
theorem kdel_none {ks : List ByteArray} {k : ByteArray} (h : k ∉ ks) : kdel ks k = ks := by
  rw [kdel, List.filter_eq_self]; intro x hx; have : x ≠ k := fun e => h (e ▸ hx); simpa using this

def kmem (ks : List ByteArray) (k : ByteArray) : Bool := ks.any (fun x => decide (x = k))
theorem kmem_yes {ks : List ByteArray} {k : ByteArray} (h : k ∈ ks) : kmem ks k = true := List.any_eq_true.2 ⟨k, h, by simp⟩
theorem kmem_no {ks : List ByteArray} {k : ByteArray} (h : k ∉ ks) : kmem ks k = false := by
  rw [kmem, List.any_eq_false]; intro x hx e; exact h (by simpa using (of_decide_eq_true e) ▸ hx)
theorem kmem_iff {ks : List ByteArray} {k : ByteArray} : kmem ks k = true ↔ k ∈ ks := by
  constructor
  · intro h
    obtain ⟨x, hx, e⟩ := List.any_eq_true.1 h
    exact (of_decide_eq_true e) ▸ hx
  · exact kmem_yes

def TouchPost (l : Hp) (rb : Nat) (ks : List ByteArray) (key : ByteArray) (w : World) (e : Ending) (w' : World) : Prop :=
  e = .returned (.bool (!kmem ks key)) ∧ ∃ l', IsRecent l' rb (kdel ks key ++ [key]) ∧ Step w l w' l'
theorem TouchPost.mk {l l' : Hp} {rb : Nat} {ks : List ByteArray} {key : ByteArray} {w w' : World} {is : Bool} (hi : (!kmem ks key) = is) (h : IsRecent l' rb (kdel ks key ++ [key])) (hs : Step w l w' l') :
    TouchPost l rb ks key w (.returned (.bool is)) w' := by subst hi; exact ⟨rfl, l', h, hs⟩

set_option maxHeartbeats 1000000 in
theorem touch_any (l : Hp) (rb : Nat) (ks : List ByteArray) (key : ByteArray) (w : World) (hR : IsRecent l rb ks) (ho : Own w l) :
    Calls Tryz.prog 89 #[ptr rb, .string key] w (TouchPost l rb ks key w) := by
  obtain ⟨mb, o, ns, m, rfl, rfl, hm, hp, hn⟩ := hR
  have hmn : (m.map Prod.fst).Nodup := by
    have : (m.map Prod.fst).Perm (ns.map Prod.snd) := by rw [← ndPtr_keys]; exact hp.map _
    exact this.nodup_iff.2 hn
  have c3 : w.cell? ⟨rb, 3, none⟩ = some (.map (some mb)) := cells_get ho.head 3
  have hlk := run_look (P := Tryz.prog) (t := 101) Tryz.underlying101 Tryz.underlying9 zeroLink ho.tail.head hm key
  have hpost : Hid (∀ w' l' is, (!kmem (ns.map Prod.snd) key) = is → IsRecent l' rb (kdel (ns.map Prod.snd) key ++ [key]) → Step w (RecHp rb mb o ns) w' l' → TouchPost (RecHp rb mb o ns) rb (ns.map Prod.snd) key w (.returned (.bool is)) w') := fun w' l' is h1 h2 h3 => .mk h1 h2 h3
  rcases mlook_nodes ns key with ⟨h1, h2⟩ | ⟨a, p, b, rfl, rfl, h3⟩
  · rw [mlook_perm hp hmn, h1] at hlk
    simp only [Option.getD_none, Option.isSome_none] at hlk
    have hst := hid (Step.refl ho)
    have hkd := kdel_none h2
    have hlm : mlook m key = none := by rw [mlook_perm hp hmn, h1]
    obtain ⟨S1, S1'⟩ : ∃ S : Step w (RecHp rb mb o ns) (w.alloc (.cells #[.string key, .pointer none, .pointer none] 100)) ((w.heap.size, .cells #[.string key, .pointer none, .pointer none] 100) :: RecHp rb mb o ns), True := ⟨hst.out.alloc _, trivial⟩
    have hmb1 : (w.alloc (.cells #[.string key, .pointer none, .pointer none] 100)).heap[mb]? = some o := S1.own.tail.tail.head
    obtain ⟨o', hup, hm'⟩ := run_put (P := Tryz.prog) (t := 101) Tryz.underlying101 Tryz.underlying9 hmb1 hm hmn key (ptr w.heap.size)
    obtain ⟨w2, hw2⟩ : ∃ w2 : World, w2 = { (w.alloc (.cells #[.string key, .pointer none, .pointer none] 100)) with heap := (w.alloc (.cells #[.string key, .pointer none, .pointer none] 100)).heap.setIfInBounds mb o' } := ⟨_, rfl⟩
    rw [← hw2] at hup
    have S2 : Step w (RecHp rb mb o ns) w2 ((w.heap.size, .cells #[.string key, .pointer none, .pointer none] 100) :: RecHp rb mb o' ns) := by
      have h1 := (S1.permR (l2 := (mb, o) :: (w.heap.size, .cells #[.string key, .pointer none, .pointer none] 100) :: (rb, RootObj (lst ns rb) (hd ns rb) mb) :: nodesHp rb ns rb) (List.perm_middle (l₁ := [_, _]))).obj hw2
      exact h1.permR (List.perm_middle (l₁ := [_, _])).symm
    have hlast := hid (rlast_any S2)
    have hfin : Hid (IsRecent (RecHp rb mb o' (ns ++ [(w.heap.size, key)])) rb (kdel (ns.map Prod.snd) key ++ [key])) := by
      refine ⟨mb, o', ns ++ [(w.heap.size, key)], _, rfl, by rw [hkd]; simp, hm', ?_, ?_⟩
      · rw [mput, hlm]
        simp only [Option.isSome_none, Bool.false_eq_true, if_false, List.map_append, List.map_cons, List.map_nil]
        exact hp.append_right _
      · rw [hkd, List.nodup_append]
        refine ⟨hn, by simp, ?_⟩
        intro x hx y hy
        simp only [List.mem_cons, List.not_mem_nil, or_false] at hy
        subst hy
        rintro rfl
        exact h2 hx
    have c3' : (w.alloc (.cells #[.string key, .pointer none, .pointer none] 100)).cell? ⟨rb, 3, none⟩ = some (.map (some mb)) := cells_get S1.own.tail.head 3
    have hrl := block_lt ho.head
    replace h2 := hid h2
    clear hw2 S1 S1' S2 hm' hmb1 hlm hkd hm hp hn hmn h1 ho hst
    go_enter Tryz.func89, Tryz.ntmps89
    go_wp2_with fail
    refine hlast.out.mono ?_
    rintro e w3 ⟨rfl, S3⟩
    replace S3 := hid S3
    go_wp2_with fail
    go_ret
    exact hpost.out _ _ _ (by rw [kmem_no h2.out]; rfl) hfin.out S3.out
  · rw [mlook_perm hp hmn, h3] at hlk
    simp only [Option.getD_some, Option.isSome_some] at hlk
    have hst := Step.refl ho
    have hout := hid (rout_any hst)
    have hmem : p.2 ∈ (a ++ p :: b).map Prod.snd := by simp
    have hkd : kdel ((a ++ p :: b).map Prod.snd) p.2 = (a ++ b).map Prod.snd := by
      have := hn; simp only [List.map_append, List.map_cons] at this ⊢
      exact kdel_mid this
    have hfin : Hid (IsRecent (RecHp rb mb o ((a ++ b) ++ [(p.1, p.2)])) rb (kdel ((a ++ p :: b).map Prod.snd) p.2 ++ [p.2])) := by
      have hpm : ((a ++ b) ++ [(p.1, p.2)]).Perm (a ++ p :: b) := by
        refine List.Perm.trans ?_ List.perm_middle.symm
        exact List.perm_append_comm (l₁ := a ++ b) (l₂ := [p])
      refine ⟨mb, o, (a ++ b) ++ [(p.1, p.2)], m, rfl, by rw [hkd]; simp, hm, hp.trans (hpm.symm.map _), ?_⟩
      rw [hkd]
      have : ((a ++ b).map Prod.snd ++ [p.2]).Perm ((a ++ p :: b).map Prod.snd) := by
        have := hpm.map Prod.snd
        simpa using this
      exact this.nodup_iff.2 hn
    replace hmem := hid hmem
    clear hkd h3 hm hp hmn hn ho hst
    go_enter Tryz.func89, Tryz.ntmps89
    go_wp2_with fail
    refine hout.out.mono ?_
    rintro e w2 ⟨rfl, S2⟩
    have hlast := hid (rlast_any S2)
    clear hlk
    go_wp2_with fail
    refine hlast.out.mono ?_
    rintro e w3 ⟨rfl, S3⟩
    replace S3 := hid S3
    go_wp2_with fail
    go_ret
    exact hpost.out _ _ _ (by rw [kmem_yes hmem.out]; rfl) hfin.out S3.out

def RDropPost (l : Hp) (rb : Nat) (ks : List ByteArray) (key : ByteArray) (w : World) (e : Ending) (w' : World) : Prop :=
  e = .returned (.bool (kmem ks key)) ∧ ∃ l', IsRecent l' rb (kdel ks key) ∧ Step w l w' l'
theorem RDropPost.mk {l l' : Hp} {rb : Nat} {ks : List ByteArray} {key : ByteArray} {w w' : World} {is : Bool} (hi : kmem ks key = is) (h : IsRecent l' rb (kdel ks key)) (hs : Step w l w' l') :
    RDropPost l rb ks key w (.returned (.bool is)) w' := by subst hi; exact ⟨rfl, l', h, hs⟩

set_option maxHeartbeats 1000000 in
theorem rdrop_any (l : Hp) (rb : Nat) (ks : List ByteArray) (key : ByteArray) (w : World) (hR : IsRecent l rb ks) (ho : Own w l) :
    Calls Tryz.prog 209 #[ptr rb, .string key] w (RDropPost l rb ks key w) := by
  obtain ⟨mb, o, ns, m, rfl, rfl, hm, hp, hn⟩ := hR
  have hmn : (m.map Prod.fst).Nodup := by
    have : (m.map Prod.fst).Perm (ns.map Prod.snd) := by rw [← ndPtr_keys]; exact hp.map _
    exact this.nodup_iff.2 hn
  have c3 : w.cell? ⟨rb, 3, none⟩ = some (.map (some mb)) := cells_get ho.head 3
  have hlk := run_look (P := Tryz.prog) (t := 101) Tryz.underlying101 Tryz.underlying9 zeroLink ho.tail.head hm key
  have hpost : Hid (∀ w' l' is, kmem (ns.map Prod.snd) key = is → IsRecent l' rb (kdel (ns.map Prod.snd) key) → Step w (RecHp rb mb o ns) w' l' → RDropPost (RecHp rb mb o ns) rb (ns.map Prod.snd) key w (.returned (.bool is)) w') := fun w' l' is h1 h2 h3 => .mk h1 h2 h3
  rcases mlook_nodes ns key with ⟨h1, h2⟩ | ⟨a, p, b, rfl, rfl, h3⟩
  · rw [mlook_perm hp hmn, h1] at hlk
    simp only [Option.getD_none, Option.isSome_none] at hlk
    have hfin : Hid (IsRecent (RecHp rb mb o ns) rb (kdel (ns.map Prod.snd) key)) := ⟨mb, o, ns, m, rfl, kdel_none h2, hm, hp, by rw [kdel_none h2]; exact hn⟩
    have hst := hid (Step.refl ho)
    replace h2 := hid h2
    clear h1 hm hp hn hmn ho
    go_enter Tryz.func209, Tryz.ntmps209
    go_wp2_with fail
    go_ret
    exact hpost.out _ _ _ (kmem_no h2.out) hfin.out hst.out
  · rw [mlook_perm hp hmn, h3] at hlk
    simp only [Option.getD_some, Option.isSome_some] at hlk
    have hout := hid (rout_any (Step.refl ho))
    have hmem := hid (show p.2 ∈ (a ++ p :: b).map Prod.snd by simp)
    have hkd : kdel ((a ++ p :: b).map Prod.snd) p.2 = (a ++ b).map Prod.snd := by
      have := hn; simp only [List.map_append, List.map_cons] at this ⊢
      exact kdel_mid this
    have hm' := hid hm
    have hp' := hid hp
    have hn' := hid hn
    have hkd' := hid hkd
    have hmn' := hid hmn
    have hne := ho.nd
    clear hkd h3 hm hp hmn hn ho
    go_enter Tryz.func209, Tryz.ntmps209
    go_wp2_with fail
    refine hout.out.mono ?_
    rintro e w2 ⟨rfl, S2⟩
    have c3' : w2.cell? ⟨rb, 3, none⟩ = some (.map (some mb)) := cells_get S2.own.tail.head 3
    obtain ⟨o', hdel, hm2⟩ := run_del (P := Tryz.prog) (t := 101) Tryz.underlying101 Tryz.underlying9 0 S2.own.tail.tail.head hm'.out hmn'.out p.2 9
    obtain ⟨w3, hw3⟩ : ∃ w3 : World, w3 = { w2 with heap := w2.heap.setIfInBounds mb o' } := ⟨_, rfl⟩
    rw [← hw3] at hdel
    have S3 : Step w (RecHp rb mb o (a ++ p :: b)) w3 (RecHp rb mb o' (a ++ b)) := by
      have h1 := (S2.permR (l2 := (mb, o) :: (p.1, LinkObj p.2 (lst a rb) (hd b rb)) :: (rb, RootObj (lst (a ++ b) rb) (hd (a ++ b) rb) mb) :: nodesHp rb (a ++ b) rb) (List.perm_middle (l₁ := [_, _]))).obj hw3
      have h2 := h1.permR (l2 := (p.1, LinkObj p.2 (lst a rb) (hd b rb)) :: (rb, RootObj (lst (a ++ b) rb) (hd (a ++ b) rb) mb) :: (mb, o') :: nodesHp rb (a ++ b) rb) (List.perm_middle (l₁ := [_, _])).symm
      exact h2.less (List.sublist_cons_self _ _)
    have hfin : Hid (IsRecent (RecHp rb mb o' (a ++ b)) rb (kdel ((a ++ p :: b).map Prod.snd) p.2)) := by
      refine ⟨mb, o', a ++ b, _, rfl, hkd'.out, hm2, ?_, by rw [hkd'.out]; have h0 := hn'.out; simp only [List.map_append, List.map_cons] at h0 ⊢; exact (List.nodup_cons.1 (List.perm_middle.nodup_iff.1 h0)).2⟩
      have h1 := hp'.out.filter (fun q => decide (q.1 ≠ p.2))
      refine List.Perm.trans h1 (List.Perm.of_eq ?_)
      have h0 := hn'.out
      simp only [List.map_append, List.map_cons] at h0
      have h0 := List.perm_middle.nodup_iff.1 h0
      rw [List.nodup_cons] at h0
      simp only [List.map_append, List.map_cons, List.filter_append, List.filter_cons]
      have hx : ∀ c : List Nd, (∀ q ∈ c, q.2 ≠ p.2) → (c.map ndPtr).filter (fun q => decide (q.1 ≠ p.2)) = c.map ndPtr := by
        intro c hc
        rw [List.filter_eq_self]
        intro q hq
        obtain ⟨r, hr, rfl⟩ := List.mem_map.1 hq
        have h9 := hc r hr
        exact decide_eq_true h9
      rw [hx a (fun q hq e => h0.1 (by rw [← e]; exact List.mem_append_left _ (List.mem_map_of_mem hq))), hx b (fun q hq e => h0.1 (by rw [← e]; exact List.mem_append_right _ (List.mem_map_of_mem hq)))]
      simp [ndPtr]
    replace S3 := hid S3
    clear hlk hw3 hm2 S2
    go_wp2_with fail
    go_ret
    exact hpost.out _ _ _ (kmem_yes hmem.out) hfin.out S3.out

def oldest (ks : List ByteArray) (but : ByteArray) : ByteArray × Bool := match ks with
  | [] => (ByteArray.empty, false)
  | k :: r => if k = but then (match r with
    | [] => (ByteArray.empty, false)
    | k2 :: _ => (k2, true)) else (k, true)

theorem run_neq_same {P : Program} (w : World) {tp te : TypeId} {j : TypeInfo} (a : Addr) (hp : P.underlying tp = some (.pointer te)) (hte : P.info? te = some j) :
    (binOp .neq tp (.pointer (some a)) (.pointer (some a))).run P w = .ok (.bool false) w := by
  have h : ∀ d : Nat, (Op.equalIn (d + 1) tp (.pointer (some a)) (.pointer (some a))).run P w = .ok true w := fun d => by
    simp [Op.equalIn, run_underlying hp, sizeOf, typeInfo, hte, run_sameAddr_same]
  simp only [binOp]
  simp [Op.equal, Op.maxDepth, h 9999]
theorem run_neq_other {P : Program} (w : World) {tp te : TypeId} {j : TypeInfo} {a b : Addr} {ca cb : Array Value} {ta tb : TypeId} (hp : P.underlying tp = some (.pointer te)) (hte : P.info? te = some j) (hsz : j.size ≠ 0)
    (hne : a ≠ b) (ha : w.heap[a.block]? = some (.cells ca ta (0, 0))) (hb : w.heap[b.block]? = some (.cells cb tb (0, 0))) :
    (binOp .neq tp (.pointer (some a)) (.pointer (some b))).run P w = .ok (.bool true) w := by
  have h : ∀ d : Nat, (Op.equalIn (d + 1) tp (.pointer (some a)) (.pointer (some b))).run P w = .ok false w := fun d => by
    simp [Op.equalIn, run_underlying hp, sizeOf, typeInfo, hte, hsz, run_sameAddr_other w hne ha hb]
  simp only [binOp]
  simp [Op.equal, Op.maxDepth, h 9999]
theorem linkInfo : ∃ j, Tryz.prog.info? 100 = some j ∧ j.size ≠ 0 := by
  have h : (Tryz.prog.info? 100).map (fun i => i.size) = some 3 := by kernel_rfl
  obtain ⟨j, hj, hs⟩ := Option.map_eq_some_iff.1 h
  exact ⟨j, hj, by rw [hs]; decide⟩
theorem link_same (a : Addr) (w : World) : (binOp .neq 98 (.pointer (some a)) (.pointer (some a))).run Tryz.prog w = .ok (.bool false) w := by
  obtain ⟨j, hj, _⟩ := linkInfo
  exact run_neq_same w a Tryz.underlying98 hj
theorem link_other {w : World} {a b : Nat} {oa ob : Obj} (hne : a ≠ b) (ha : w.heap[a]? = some oa) (hb : w.heap[b]? = some ob) (ca : ∃ c t, oa = .cells c t (0, 0)) (cb : ∃ c t, ob = .cells c t (0, 0)) :
    ∀ n, (binOp .neq 98 (ptr a) (ptr b)).run Tryz.prog (w.drewN n) = .ok (.bool true) (w.drewN n) := by
  intro n
  obtain ⟨j, hj, hs⟩ := linkInfo
  obtain ⟨c, t, rfl⟩ := ca
  obtain ⟨c', t', rfl⟩ := cb
  exact run_neq_other (w.drewN n) Tryz.underlying98 hj hs (fun e => hne (congrArg Addr.block e)) ha hb

set_option maxRecDepth 100000 in
set_option maxHeartbeats 1000000 in
theorem oldest_any (l : Hp) (rb : Nat) (ks : List ByteArray) (but : ByteArray) (w : World) (hR : IsRecent l rb ks) (ho : Own w l) :
    Calls Tryz.prog 190 #[ptr rb, .string but] w fun e w' => e = .returned (.tuple #[.string (oldest ks but).1, .bool (oldest ks but).2]) ∧ ∃ n, w' = w.drewN n := by
  obtain ⟨mb, o, ns, m, rfl, rfl, hm, hp, hn⟩ := hR
  have c0 : w.cell? ⟨rb, 0, none⟩ = some (.string ByteArray.empty) := cells_get ho.head 0
  have c2 : w.cell? ⟨rb, 2, none⟩ = some (ptr (hd ns rb)) := cells_get ho.head 2
  have hsame := link_same ⟨rb, 0, none⟩
  cases ns with
  | nil =>
    simp only [hd_nil] at c2
    clear hm hp hn ho
    go_enter Tryz.func190, Tryz.ntmps190
    go_wp2_with fail
    go_quiet (fail)
    go_wp2_with fail
    go_ret2
    exact ⟨rfl, _, rfl⟩
  | cons p r =>
    have hnd := ho.nd
    simp only [keys_cons, RecHp, keys_nodes, List.map_cons, List.nodup_cons, List.mem_cons, not_or] at hnd
    have hne : ¬ p.1 = rb := fun e => hnd.1.2.1 e.symm
    have hpo : w.heap[p.1]? = some (LinkObj p.2 rb (hd r rb)) := ring_node (a := []) ho
    have d0 : w.cell? ⟨p.1, 0, none⟩ = some (.string p.2) := cells_get hpo 0
    have d2 : w.cell? ⟨p.1, 2, none⟩ = some (ptr (hd r rb)) := cells_get hpo 2
    simp only [hd_cons] at c2
    have hoth := link_other (fun e => hnd.1.2.1 e.symm) hpo ho.head ⟨_, _, rfl⟩ ⟨_, _, rfl⟩
    have hoth0 := hoth 0
    rw [World.drewN_zero] at hoth0
    by_cases hb : p.2 = but
    · have ht := str_is hb
      cases r with
      | nil =>
        simp only [hd_nil] at d2
        have hol : oldest ([p].map Prod.snd) but = (ByteArray.empty, false) := by simp [oldest, hb]
        rw [hol]
        clear hm hp hn ho hol hb hnd hpo
        go_enter Tryz.func190, Tryz.ntmps190
        go_wp2_with fail
        go_quiet (fail)
        go_wp2_with fail
        go_ret2
        exact ⟨rfl, _, rfl⟩
      | cons q r =>
        have hpq : w.heap[q.1]? = some (LinkObj q.2 p.1 (hd r rb)) := ring_node (a := [p]) ho
        have e0 : w.cell? ⟨q.1, 0, none⟩ = some (.string q.2) := cells_get hpq 0
        have hne2 : ¬ q.1 = rb := fun e => hnd.1.2.2 (by simp [e])
        simp only [hd_cons] at d2
        have hoth2 := link_other hne2 hpq ho.head ⟨_, _, rfl⟩ ⟨_, _, rfl⟩
        have hoth20 := hoth2 0
        rw [World.drewN_zero] at hoth20
        have hol : oldest ((p :: q :: r).map Prod.snd) but = (q.2, true) := by simp [oldest, hb]
        rw [hol]
        clear hm hp hn ho hol hb hnd hpo hpq
        go_enter Tryz.func190, Tryz.ntmps190
        go_wp2_with fail
        go_quiet (fail)
        go_wp2_with fail
        go_ret2
        exact ⟨rfl, _, rfl⟩
    · have ht := str_isnt hb
      have hol : oldest ((p :: r).map Prod.snd) but = (p.2, true) := by simp [oldest, hb]
      rw [hol]
      clear hm hp hn ho hol hb hnd hpo
      go_enter Tryz.func190, Tryz.ntmps190
      go_wp2_with fail
      go_quiet (fail)
      go_wp2_with fail
      go_ret2
      exact ⟨rfl, _, rfl⟩

set_option maxHeartbeats 1000000 in
theorem rclear_any (rb : Nat) (x1 x2 x3 : Value) (l0 : Hp) (w0 w : World) (hS : Step w0 l0 w [(rb, .cells #[.string ByteArray.empty, x1, x2, x3] 103 (0, 0))]) :
    Calls Tryz.prog 38 #[ptr rb] w fun e w' => e = .returned (.tuple #[]) ∧ ∃ l', IsRecent l' rb [] ∧ Step w0 l0 w' l' := by
  have hb := hS.own.head
  have c1 : w.cell? ⟨rb, 1, none⟩ = some x1 := cells_get hb 1
  have c2 : w.cell? ⟨rb, 2, none⟩ = some x2 := cells_get hb 2
  have c3 : w.cell? ⟨rb, 3, none⟩ = some x3 := cells_get hb 3
  have f1 : ∀ j, w.frozen? ⟨rb, j, none⟩ = false := fun j => cells_free hb j
  have hlt := block_lt hb
  have hmm := @run_makeMap Tryz.prog
  have hst := hid hS
  clear hS hb
  go_enter Tryz.func38, Tryz.ntmps38
  go_wp2_with fail
  go_region
  go_wp2_with fail
  go_end0
  refine ⟨rfl, RecHp rb w.heap.size (.map #[] 0) [], ⟨_, _, [], [], rfl, rfl, StrMap.empty, List.Perm.refl _, List.nodup_nil⟩, ?_⟩
  have h1 := (((((hst.out.set 3 (.map (some w.heap.size))).set 1 (ptr rb)).set 2 (ptr rb)).alloc (.map #[] 0)).drew).permR (List.Perm.swap _ _ _)
  have e : (((w.setCell ⟨rb, 3, none⟩ (.map (some w.heap.size))).setCell ⟨rb, 1, none⟩ (ptr rb)).setCell ⟨rb, 2, none⟩ (ptr rb)).heap.size = w.heap.size := by simp
  rw [e] at h1
  exact h1

set_option maxHeartbeats 1000000 in
theorem rnew_any (w : World) : Calls Tryz.prog 24 #[] w fun e w' => ∃ rb l', e = .returned (ptr rb) ∧ IsRecent l' rb [] ∧ Step w [] w' l' := by
  have S1 := (Step.refl (Own.nil w)).alloc (.cells #[.string ByteArray.empty, .pointer none, .pointer none, .map none] 103)
  have hcl := hid (rclear_any w.heap.size _ _ _ [] w _ S1)
  clear S1
  go_enter Tryz.func24, Tryz.ntmps24
  go_wp2_with fail
  refine hcl.out.mono ?_
  rintro e w2 ⟨rfl, l', hR, S2⟩
  replace hR := hid hR
  replace S2 := hid S2
  go_wp2_with fail
  go_ret
  exact ⟨_, l', rfl, hR.out, S2.out⟩

end Go.Proofs.YthfngplckbggpaaGreatDoor

namespace Go.Proofs.YthfngplckbggpaaGreatDoor
open Go Go.RowKit

/-- v is a slice of n elements (k cells each, of type T), whose cells are xs; it owns l. -/
inductive SliceHp (k : Nat) (T : TypeId) : Value → Nat → List Value → Hp → Prop where
  | nil : SliceHp k T (.slice none 0 0) 0 [] []
  | laid (g n cap : Nat) (xs rest : List Value) (hx : xs.length = n * k) (hr : rest.length = (cap - n) * k) (hn : n ≤ cap) (hc : cap ≤ maxLen) :
      SliceHp k T (.slice (some ⟨g, 0, none⟩) n cap) n xs [(g, .cells (xs ++ rest).toArray T (0, 0))]

theorem SliceHp.len {k : Nat} {T : TypeId} {v : Value} {n : Nat} {xs : List Value} {l : Hp} (h : SliceHp k T v n xs l) : xs.length = n * k := by
  cases h with
  | nil => simp
  | laid g n cap xs rest hx hr hn hc => exact hx

/-- The walk's step at an append whose run is known. -/
theorem wpList_append_run {P : Program} {ops : Array Oper} {rest : List Oper} {o : Oper} {a : Act} {Q : Exit → Act → World → Prop} {w w' : World} {v' : Value} (hgd : o.guard = none) (s x : Operand) (t t2 : TypeId)
    (ho : o.op = .call { callee := .builtin .append, args := #[s, x], argTypes := #[t, t2] }) (v vx : Value) (hs : a.eval s = v) (hx : a.eval x = vx)
    (hrun : (Builtin.append_ #[t, t2] o.type #[v, vx]).run P w = .ok v' w') (h : wpList P ops Q rest (a.put o.dst v') w') : wpList P ops Q (o :: rest) a w := by
  refine wpList_plain hgd fun K hK => ?_
  unfold Oper.wp execOp
  simp only [ho, resolve, invoke, builtin, Sem.run_bind, Sem.run_pure, Result.andThen_ok, List.map_toArray, List.map_cons, List.map_nil, hs, hx, hrun]
  exact hK _ _ h

theorem append_types {P : Program} {t t2 e e2 ty : TypeId} (ht : P.underlying t = some (.slice e)) (ht2 : P.underlying t2 = some (.slice e2)) (s x : Value) (w : World) :
    (Builtin.append_ #[t, t2] ty #[s, x]).run P w = (Builtin.append_ #[t, t] ty #[s, x]).run P w := by
  cases s <;> simp [Builtin.append_, run_underlying ht, run_underlying ht2]

theorem zeroCells_len (z : Array Value) (n : Nat) : (Builtin.zeroCells z n).toList.length = n * z.size := by simp [Builtin.zeroCells]

theorem run_append {P : Program} {t t2 e ty e2 : TypeId} {z : Value} {k bytes : Nat} (ht : P.underlying t = some (.slice e)) (ht2 : P.underlying t2 = some (.slice e2))
    (hinfo : (P.info? e).map (fun i => (i.zero, i.size, i.bytes)) = some (some z, k, bytes)) (hzs : z.cells.size = k) (hk : 0 < k)
    {w0 w : World} {l sl r : Hp} {v : Value} {n : Nat} {xs : List Value} (hS : Step w0 l w (sl ++ r)) (hsl : SliceHp k e v n xs sl)
    (a : Addr) (m c : Nat) (news : List Value) (hl : news.length = m * k) (hnews : ∀ j u, news[j]? = some u → w.cell? (a.add j) = some u) (h1 : ∀ u ∈ news, u.oneCell' = true)
    (hm : 0 < m) (hbytes : (n + m) * bytes ≤ 140737488355328) (h63 : n + m ≤ maxLen) :
    ∃ v' w' sl', (Builtin.append_ #[t, t2] ty #[v, .slice (some a) m c]).run P w = .ok v' w' ∧ SliceHp k e v' (n + m) (xs ++ news) sl' ∧ Step w0 l w' (sl' ++ r) ∧ (∀ b, b ∈ keys sl' → b ∈ keys sl ∨ w.heap.size ≤ b) := by
  obtain ⟨i, hi, hz, hsz, hby⟩ := info_parts hinfo
  have hsmall : n + m ≤ 9223372036854775807 := by simp only [maxLen] at h63; omega
  subst hsz
  rw [append_types ht ht2]
  have hge : ∀ old, n + m ≤ grownCap w (n + m) old e := fun old => grownCap_ge w (n + m) old e
  have hcm : ∀ old, grownCap w (n + m) old e ≤ maxLen := fun old => grownCap_le_maxLen w (n + m) old e h63
  -- a new block
  have grow : ∀ (old : Nat) (sl0 : Hp), Step w0 l w (sl0 ++ r) → xs.length = n * i.size →
      SliceHp i.size e (.slice (some ⟨w.heap.size, 0, none⟩) (n + m) (grownCap w (n + m) old e)) (n + m) (xs ++ news) [(w.heap.size, .cells ((xs ++ news) ++ (Builtin.zeroCells z.cells (grownCap w (n + m) old e - (n + m))).toList).toArray e (0, 0))] ∧
      Step w0 l (w.drew.alloc (.cells (xs.toArray ++ news.toArray ++ Builtin.zeroCells z.cells (grownCap w (n + m) old e - (n + m))) e)) ([(w.heap.size, .cells ((xs ++ news) ++ (Builtin.zeroCells z.cells (grownCap w (n + m) old e - (n + m))).toList).toArray e (0, 0))] ++ r) := by
    intro old sl0 hS0 hxl
    refine ⟨.laid _ _ _ _ _ ?_ ?_ (hge old) (hcm old), ?_⟩
    · rw [List.length_append, hxl, hl, Nat.add_mul]
    · rw [zeroCells_len, hzs]
    · have e1 : (Obj.cells (xs.toArray ++ news.toArray ++ Builtin.zeroCells z.cells (grownCap w (n + m) old e - (n + m))) e) = .cells ((xs ++ news) ++ (Builtin.zeroCells z.cells (grownCap w (n + m) old e - (n + m))).toList).toArray e (0, 0) := by
        congr 1
        apply Array.toList_inj.1
        simp
      rw [e1]
      have hd := hS0.drew.alloc (.cells ((xs ++ news) ++ (Builtin.zeroCells z.cells (grownCap w (n + m) old e - (n + m))).toList).toArray e (0, 0))
      exact hd.less (List.Sublist.cons_cons _ (List.sublist_append_right _ _))
  cases hsl with
  | nil =>
    have hr := run_append_nil (P := P) (ty := ty) w t e i z ht hi hz a m c news hl hnews hm (by omega) (by rw [hby]; simp only [Nat.zero_add] at hbytes; omega)
    have hg := grow 0 [] hS (by simp)
    simp only [Nat.zero_add, List.nil_append] at hg ⊢
    refine ⟨_, _, _, hr, hg.1, ?_, ?_⟩
    · have := hg.2
      simpa using this
    · intro b hb; simp at hb; exact .inr (by omega)
  | laid g n cap xs rest hx hr hn hc =>
    have hg := hS.own.left.head
    by_cases hroom : n + m ≤ cap
    · have hfit : n * i.size + news.length ≤ ((xs ++ rest).toArray).size := by
        rw [hl, List.size_toArray, List.length_append, hx, hr, ← Nat.add_mul, ← Nat.add_mul]
        exact Nat.mul_le_mul_right _ (by omega)
      have hrun := run_append_room (P := P) (ty := ty) w t e i ht hi g n cap _ hg a m c news hl hnews h1 hroom hfit
      have e1 : ((xs ++ rest).toArray.toList.take (n * i.size) ++ news ++ (xs ++ rest).toArray.toList.drop (n * i.size + news.length)) = (xs ++ news) ++ rest.drop news.length := by
        simp only [← hx]
        simp [List.drop_append]
      rw [e1] at hrun
      refine ⟨_, _, [(g, .cells ((xs ++ news) ++ rest.drop news.length).toArray e (0, 0))], hrun, .laid g (n + m) cap _ _ ?_ ?_ hroom hc, ?_, ?_⟩
      · rw [List.length_append, hx, hl, Nat.add_mul]
      · rw [List.length_drop, hr, hl, ← Nat.sub_mul]; congr 1; omega
      · exact Step.put hS (by simp [World.setRow]) (setRow_heap w g _ _ e _ hg) (fun k hk => setRow_other w g k _ hk) rfl rfl
      · intro b hb; exact .inl (by simpa using hb)
    · have holds : ∀ j u, xs[j]? = some u → w.cell? ((⟨g, 0, none⟩ : Addr).add j) = some u := by
        intro j u hu
        have hadd : (⟨g, 0, none⟩ : Addr).add j = ⟨g, j, none⟩ := by unfold Addr.add; split <;> simp_all
        rw [hadd, cells_get hg]
        have hj : j < xs.length := (List.getElem?_eq_some_iff.1 hu).1
        simp only [List.getElem?_toArray]
        rw [List.getElem?_append_left hj, hu]
      have hrun := run_append_grow (P := P) (ty := ty) w t e i z ht hi hz ⟨g, 0, none⟩ n cap xs hx holds a m c news hl hnews (by omega) (by omega) (growslice_fits (by omega) (by rw [hby]; exact hbytes))
      have hgr := grow cap _ hS hx
      exact ⟨_, _, _, hrun, hgr.1, hgr.2, fun b hb => by simp at hb; exact .inr (by omega)⟩

end Go.Proofs.YthfngplckbggpaaGreatDoor

namespace Go.Proofs.YthfngplckbggpaaGreatDoor
open Go Go.RowKit

theorem perm_by {α : Type} {l m : List α} (h : ∀ f : α → Nat, (l.map f).sum = (m.map f).sum) : l.Perm m := by
  classical
  rw [List.perm_iff_count]
  intro a
  have key : ∀ xs : List α, (xs.map fun x => if x = a then 1 else 0).sum = xs.count a := by
    intro xs
    induction xs with
    | nil => rfl
    | cons x xs ih =>
      simp only [List.map_cons, List.sum_cons, List.count_cons, ih]
      by_cases e : x = a <;> simp [e] <;> omega
  rw [← key, ← key]
  exact h _

/-- Some of what is owned, the rest let go. -/
theorem Step.pick {w w' : World} {l l' l2 m : Hp} (h : Step w l w' l') (p : l'.Perm (l2 ++ m)) : Step w l w' l2 := (h.permR p).less (List.sublist_append_left _ _)

structure Cells2 (w : World) (b : Nat) (x y : Value) : Prop where
  c0 : w.cell? ⟨b, 0, none⟩ = some x
  c1 : w.cell? ⟨b, 1, none⟩ = some y
  fz : ∀ j, w.frozen? ⟨b, j, none⟩ = false
theorem cells2 {w : World} {b : Nat} {x y : Value} {t : TypeId} (h : w.heap[b]? = some (.cells #[x, y] t (0, 0))) : Cells2 w b x y := ⟨cells_get h 0, cells_get h 1, fun j => cells_free h j⟩
structure Cells3 (w : World) (b : Nat) (x y z : Value) : Prop where
  c0 : w.cell? ⟨b, 0, none⟩ = some x
  c1 : w.cell? ⟨b, 1, none⟩ = some y
  c2 : w.cell? ⟨b, 2, none⟩ = some z
  fz : ∀ j, w.frozen? ⟨b, j, none⟩ = false
theorem cells3 {w : World} {b : Nat} {x y z : Value} {t : TypeId} (h : w.heap[b]? = some (.cells #[x, y, z] t (0, 0))) : Cells3 w b x y z := ⟨cells_get h 0, cells_get h 1, cells_get h 2, fun j => cells_free h j⟩

theorem SliceHp.form {k : Nat} {T : TypeId} {v : Value} {n : Nat} {xs : List Value} {l : Hp} (h : SliceHp k T v n xs l) : ∃ a c, v = .slice a n c ∧ n ≤ c ∧ c ≤ maxLen := by
  cases h with
  | nil => exact ⟨_, _, rfl, Nat.le_refl _, by decide⟩
  | laid g n cap xs rest hx hr hn hc => exact ⟨_, _, rfl, hn, hc⟩

end Go.Proofs.YthfngplckbggpaaGreatDoor

namespace Go.Proofs.YthfngplckbggpaaGreatDoor
open Go Go.RowKit

/-- A world in which all of L is owned as it was. -/
structure InW (w0 : World) (l L : Hp) where
  w : World
  h : Step w0 l w L

theorem wp_region_inw {P : Program} {id : Nat} {Q : Exit → Act → World → Prop} {a : Act} {w w0 : World} {l L : Hp} {ops : List Oper} (hS : Step w0 l w L) (hm : P.follows .mixedOrders = true) (hB : Region.lexB .any ops.toArray = true)
    (h : Nonempty (InW w0 l L) → wpQuiet P ops.toArray (fun w' => ∃ p : InW w0 l L, w' = p.w) (fun a' => ∀ w', (∃ p : InW w0 l L, w' = p.w) → Q .normal a' w') ops a) : (Code.region id ops.toArray true).wp P Q a w :=
  wp_region_quiet (C := fun w' => ∃ p : InW w0 l L, w' = p.w) hm hB ⟨⟨w.drew, hS.drew⟩, rfl⟩ (by simpa using h ⟨⟨w, hS⟩⟩)

theorem inw_nil {P : Program} {ops : Array Oper} {C : World → Prop} {Q : Exit → Act → World → Prop} {a : Act} {w0 : World} {l L : Hp} (h : ∀ w', Step w0 l w' L → Q .normal a w') :
    wpQuiet P ops C (fun a' => ∀ w', (∃ p : InW w0 l L, w' = p.w) → Q .normal a' w') [] a := wpQuiet_nil (fun _ ⟨p, hp⟩ => by rw [hp]; exact h p.w p.h)

/-- A callee's contract, met in such a world. -/
theorem Calls.inw {P : Program} {f : FuncId} {args : Array Value} {w w0 : World} {l L : Hp} {v : Value}
    (h : Calls P f args w fun e w' => e = .returned v ∧ Step w0 l w' L) : Calls P f args w fun e w'' => e = .returned v ∧ ∃ p : InW w0 l L, w'' = p.w :=
  h.mono fun _ w' ⟨he, hs⟩ => ⟨he, ⟨w', hs⟩, rfl⟩

end Go.Proofs.YthfngplckbggpaaGreatDoor
