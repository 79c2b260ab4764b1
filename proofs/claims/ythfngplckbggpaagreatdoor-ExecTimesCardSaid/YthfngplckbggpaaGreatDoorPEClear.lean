/-
  table.Clear, recent.Clear, expiry.Clear: all are gone. (For a seat of exec.)
  store.Flush. (For a seat of exec.)
  store.Persist. (For a seat of exec.)
  texts.Do, whatever the command that is none of texts.
  fields.Do, commands that are none of hashes (printed by gen_edo.py; for a seat of exec).
  exec: yes, Is, expire. (For a seat of exec.)
  The plain law of a key's end: how long it has still. No program in sight. (For a seat of exec.)
  exec.own, a command at a time (printed by gen_own.py; for a seat of exec).
-/
import Derived.Test.YthfngplckbggpaaGreatDoorP15
import Derived.Test.YthfngplckbggpaaGreatDoorPOne
import Derived.Deep.RegionHeld3
import Derived.Deep.DeepCutAuto
import Derived.Deep.CutBlock
set_option linter.unusedVariables false
set_option linter.unusedSimpArgs false
namespace Go.Proofs.YthfngplckbggpaaGreatDoor
open Go Go.RowKit

theorem slcV_shape (o : Option Nat) (n : Nat) : ∃ a k c, slcV o n = .slice a k c := by
  cases o <;> exact ⟨_, _, _, rfl⟩

theorem set8 (o0 o1 o2 o3 o4 o5 o6 o7 v0 v1 v2 v3 v4 v5 v6 v7 : Value) : ((((((((#[o0, o1, o2, o3, o4, o5, o6, o7] : Array Value).setIfInBounds 0 v0).setIfInBounds 1 v1).setIfInBounds 2 v2).setIfInBounds 3 v3).setIfInBounds 4 v4).setIfInBounds 5 v5).setIfInBounds 6 v6).setIfInBounds 7 v7 = #[v0, v1, v2, v3, v4, v5, v6, v7] := by kernel_rfl

set_option maxRecDepth 100000 in
set_option maxHeartbeats 1000000 in
theorem tclear_any {l : Hp} {b : Nat} {M : KV} {c : Nat} {w : World} (hT : IsTable l b M c) (ho : Own w l) :
    Calls Tryz.prog 118 #[ptr b] w fun e w' => e = .returned (.tuple #[]) ∧ ∃ l', IsTable l' b [] 0 ∧ Step w l w' l' := by
  obtain ⟨T, po, pf, _, _, rfl⟩ := hT
  have hnew := hid (tnew_any w)
  have hR := hid (Step.refl ho)
  clear ho
  go_enter Tryz.func118, Tryz.ntmps118
  go_wp2_with fail
  refine hnew.out.mono ?_
  rintro e w1 ⟨nb, l', rfl, ⟨T', po', pf', hok, hmv, rfl⟩, S1⟩
  obtain ⟨sa, sn, sc, hsl⟩ := slcV_shape pf' T'.fresh.ps.length
  have S2 := (hR.out.born S1).permR (l2 := (b, TabObj po pf T) :: (nb, TabObj po' pf' T') :: ((po', PlObj T'.old.ps) :: freshHp pf' T' ++ ((po, PlObj T.old.ps) :: freshHp pf T))) (perm_by fun f => by
    unfold TabHp; simp only [List.map_append, List.sum_append, List.map_cons, List.sum_cons, List.cons_append]; omega)
  obtain ⟨s0, s1, s2, s3, s4, s5, s6, s7, _, _⟩ := tabCells S2.own.tail.head
  rw [hsl] at s3
  obtain ⟨d0, d1, d2, d3, d4, d5, d6, d7, fz, hlt⟩ := tabCells S2.own.head
  have S3 := (((((((S2.set 0 (.slice (some ⟨po', 0, none⟩) T'.old.ps.length T'.old.ps.length)).set 1 (.int .i64 T'.old.fl)).set 2 (.int .i64 T'.old.gr)).set 3 (.slice sa sn sc)).set 4 (.int .i64 T'.fresh.fl)).set 5 (.int .i64 T'.fresh.gr)).set 6 (.bool T'.moving)).set 7 (.int .i64 T'.next)
  unfold tabArr at S3
  rw [set8] at S3
  rw [← hsl] at S3
  replace S3 : Step w (TabHp b po pf T) _ ((b, TabObj po' pf' T') :: _) := S3
  have S4 := hid (S3.pick (l2 := TabHp b po' pf' T') (m := (nb, TabObj po' pf' T') :: ((po, PlObj T.old.ps) :: freshHp pf T)) (perm_by fun f => by
    unfold TabHp; simp only [List.map_append, List.sum_append, List.map_cons, List.sum_cons, List.cons_append]; omega))
  rw [hsl] at S4
  have hfin : Hid (IsTable (TabHp b po' pf' T') b [] 0) := hid ⟨T', po', pf', hok, hmv, rfl⟩
  replace hsl := hid hsl
  clear hnew hR S1 S2 S3 hok hmv
  go_wp2_with fail
  go_end0
  exact ⟨rfl, _, hfin.out, S4.out⟩

set_option maxRecDepth 100000 in
set_option maxHeartbeats 1000000 in
theorem eclear_any {l : Hp} {b : Nat} {D : AL Int} {w : World} (hX : IsExpiry l b D) (ho : Own w l) :
    Calls Tryz.prog 119 #[ptr b] w fun e w' => e = .returned (.tuple #[]) ∧ ∃ l', IsExpiry l' b [] ∧ Step w l w' l' := by
  obtain ⟨mb, o, rv, sl, es, m, rfl, _, _, _, _, _⟩ := hX
  have hnew := hid (enew_any w)
  have hR := hid (Step.refl ho)
  clear ho
  go_enter Tryz.func119, Tryz.ntmps119
  go_wp2_with fail
  refine hnew.out.mono ?_
  rintro e w1 ⟨nb, l', rfl, ⟨mb', o', rv', sl', es', m', rfl, hat', h1, h2, h3, h4⟩, S1⟩
  have hes : es' = [] := List.map_eq_nil_iff.1 (List.Perm.eq_nil h3.symm)
  subst hes
  obtain ⟨ra, rc, rfl, _, _⟩ := hat'.sl.form
  have S2 := (hR.out.born S1).permR (l2 := (b, ExpObj rv mb) :: (nb, ExpObj (.slice ra 0 rc) mb') :: (sl' ++ [(mb', o')] ++ (sl ++ entHp 0 es ++ [(mb, o)]))) (perm_by fun f => by
    unfold ExpHp HeapHp; simp only [entHp, List.map_append, List.sum_append, List.map_cons, List.sum_cons, List.cons_append, List.map_nil, List.sum_nil, List.length_nil]; omega)
  have hs := S2.own.tail.head
  have hd := S2.own.head
  have s0 : w1.cell? ⟨nb, 0, none⟩ = some (.slice ra 0 rc) := cells_get hs 0
  have s1 : w1.cell? ⟨nb, 1, none⟩ = some (.map (some mb')) := cells_get hs 1
  have d0 : w1.cell? ⟨b, 0, none⟩ = some rv := cells_get hd 0
  have d1 : w1.cell? ⟨b, 1, none⟩ = some (.map (some mb)) := cells_get hd 1
  have fz : ∀ j, w1.frozen? ⟨b, j, none⟩ = false := fun j => cells_free hd j
  have hlt := block_lt hd
  have S3 : Step w (ExpHp b mb rv sl es o) _ ((b, ExpObj (.slice ra 0 rc) mb') :: _) := (S2.set 0 (.slice ra 0 rc)).set 1 (.map (some mb'))
  have S4 := hid (S3.pick (l2 := ExpHp b mb' (.slice ra 0 rc) sl' [] o') (m := (nb, ExpObj (.slice ra 0 rc) mb') :: (sl ++ entHp 0 es ++ [(mb, o)])) (perm_by fun f => by
    unfold ExpHp HeapHp; simp only [entHp, List.map_append, List.sum_append, List.map_cons, List.sum_cons, List.cons_append, List.map_nil, List.sum_nil]; omega))
  have hfin : Hid (IsExpiry (ExpHp b mb' (.slice ra 0 rc) sl' [] o') b []) := hid ⟨mb', o', _, sl', [], m', rfl, hat', h1, h2, h3, h4⟩
  clear hnew hR S1 S2 S3 hs hd hat' h1 h2 h3 h4
  go_wp2_with fail
  go_end0
  exact ⟨rfl, _, hfin.out, S4.out⟩

theorem rclear_at {l : Hp} {b : Nat} {ks : List ByteArray} {w : World} (hX : IsRecent l b ks) (ho : Own w l) :
    Calls Tryz.prog 38 #[ptr b] w fun e w' => e = .returned (.tuple #[]) ∧ ∃ l', IsRecent l' b [] ∧ Step w l w' l' := by
  obtain ⟨mb, o, ns, m, rfl, _, _, _, _⟩ := hX
  exact rclear_any b _ _ _ _ w w ((Step.refl ho).less (List.Sublist.cons_cons _ (List.nil_sublist _)))

end Go.Proofs.YthfngplckbggpaaGreatDoor

namespace Go.Proofs.YthfngplckbggpaaGreatDoor
open Go Go.RowKit

/-- All go. -/
def St.flush (S : St) : St := ⟨[], [], S.ev ++ [(5, ByteArray.empty)], S.bud⟩
theorem Fit.none {S : St} (hf : Fit S) (ev : List (Int × ByteArray)) : Fit ⟨[], [], ev, S.bud⟩ :=
  ⟨List.nodup_nil, fun k hk => by simp at hk, List.nodup_nil, fun p hp => by simp at hp, hf.bud, Nat.zero_le _⟩

/-- Its own cells are cleared. -/
theorem SM.bare {w0 w : World} {r : Hp} {sb n bud : Nat} {m : SM} (h : Step w0 [] w (m.hp sb n bud ++ r)) :
    Step w0 [] (((w.setCell ⟨sb, 1, none⟩ (.slice none 0 0)).setCell ⟨sb, 2, none⟩ (.slice none 0 0)).setCell ⟨sb, 5, none⟩ (.int .i64 0)) ({ m with sv := .slice none 0 0, fv := .slice none 0 0, shp := [], fhp := [], ss := [], cs := [], fr := [] }.hp sb 0 bud ++ r) := by
  have h1 : Step w0 [] w ((sb, StObj m n bud) :: (m.rest ++ r)) := h
  have h2 := ((h1.set 1 (.slice none 0 0)).set 2 (.slice none 0 0)).set 5 (.int .i64 0)
  refine h2.pick (m := m.shp ++ (m.fhp ++ slotsHp m.ss)) (perm_by fun f => ?_)
  rw [List.map_append, List.sum_append, hp_sums]
  simp only [SM.rest, List.map_append, List.sum_append, List.map_cons, List.sum_cons, slotsHp, List.flatMap_nil, List.map_nil, List.sum_nil]
  show f (sb, StObj { m with sv := .slice none 0 0, fv := .slice none 0 0, shp := [], fhp := [], ss := [], cs := [], fr := [] } 0 bud) + _ = _
  omega

set_option maxRecDepth 100000 in
set_option maxHeartbeats 1000000 in
theorem flush_any {w0 w : World} {l r : Hp} {sb : Nat} {S : St} (hS : Step w0 [] w (l ++ r)) (hX : IsStore l sb S) (hev : S.ev.length ≤ 4398046511104) :
    Calls Tryz.prog 66 #[ptr sb] w (StPost w0 r sb S.flush (.tuple #[])) := by
  obtain ⟨m, rfl, hok, hf⟩ := hX
  have c0 := (stCells hS.own).c0
  have htc := hid (tclear_any hok.tab (SM.ownT hS.own))
  replace hS := hid hS
  have hev2 : Hid (S.ev.length ≤ 4398046511104) := hid hev
  clear hev
  go_enter Tryz.func66, Tryz.ntmps66
  go_wp2_with fail
  refine htc.out.mono ?_
  rintro e w1 ⟨rfl, tl', hT, ST⟩
  have S1 := SM.stepT (M' := []) hS.out ST
  generalize hm1 : ({ m with tl := tl', M := [] } : SM) = m1 at S1
  have ht1 : IsTable m1.tl m1.tb [] 0 := by rw [← hm1]; exact hT
  have hr1 : IsRecent m1.rl m1.rb (m.cs.map Cell.key) := by rw [← hm1]; exact hok.rcn
  have hx1 : IsExpiry m1.xl m1.xb S.D := by rw [← hm1]; exact hok.exp
  have hv1 : SliceHp 2 33 m1.vv S.ev.length (evCells S.ev) m1.vhp := by rw [← hm1]; exact hok.evs
  have hM1 : m1.M = [] := by rw [← hm1]
  obtain ⟨c0', c1, c2, c3, c4, c5, c6, c7, fz⟩ := stCells S1.own
  have hlt := block_lt S1.own.left.head
  have S2 := SM.bare S1
  obtain ⟨m2, hm2⟩ : ∃ m2 : SM, m2 = { m1 with sv := .slice none 0 0, fv := .slice none 0 0, shp := [], fhp := [], ss := [], cs := [], fr := [] } := ⟨_, rfl⟩
  rw [← hm2] at S2
  replace ht1 : IsTable m2.tl m2.tb [] 0 := by rw [hm2]; exact ht1
  replace hr1 : IsRecent m2.rl m2.rb (m.cs.map Cell.key) := by rw [hm2]; exact hr1
  replace hx1 : IsExpiry m2.xl m2.xb S.D := by rw [hm2]; exact hx1
  replace hv1 : SliceHp 2 33 m2.vv S.ev.length (evCells S.ev) m2.vhp := by rw [hm2]; exact hv1
  have hrest : Hid (m2.sv = .slice none 0 0 ∧ m2.fv = .slice none 0 0 ∧ m2.shp = [] ∧ m2.fhp = [] ∧ m2.ss = [] ∧ m2.cs = [] ∧ m2.fr = [] ∧ m2.M = []) := hid (by rw [hm2]; exact ⟨rfl, rfl, rfl, rfl, rfl, rfl, rfl, hM1⟩)
  clear hm1 htc hS hT ST c0 S1 hm2 hM1
  replace S2 := hid S2
  replace ht1 := hid ht1
  replace hr1 := hid hr1
  replace hx1 := hid hx1
  replace hv1 := hid hv1
  go_upto_region 2 with fail
  clear c0' c1 c2 c3 c4 c5 c6 c7 fz hlt
  generalize hw2 : ((w1.setCell _ _).setCell _ _).setCell _ _ = w2
  replace S2 : Step w0 [] w2 _ := hw2 ▸ S2.out
  clear hw2
  have c3 := (stCells S2.own).c3
  have hcl := hid (rclear_at hr1.out (SM.ownR S2.own))
  replace S2 := hid S2
  go_wp2_with fail
  refine hcl.out.mono ?_
  rintro e w3 ⟨rfl, rl', hR, ST⟩
  have S3 := SM.stepR S2.out ST
  have c4 := (stCells S3.own).c4
  have hcx := hid (eclear_any hx1.out (SM.ownX (m := { m2 with rl := rl' }) S3.own))
  replace S3 := hid S3
  replace hR := hid hR
  clear hcl ST S2 c3
  go_wp2_with fail
  refine hcx.out.mono ?_
  rintro e w4 ⟨rfl, xl', hE, ST⟩
  have S4 := SM.stepX S3.out ST
  have htl := hid (tell_any S4 hv1.out hev2.out 5 ByteArray.empty)
  replace hE := hid hE
  clear hcx ST S3 S4 c4
  go_wp2_with fail
  refine htl.out.mono ?_
  rintro e w5 ⟨rfl, vv', vhp', hv2, S5⟩
  replace S5 := hid S5
  replace hv2 := hid hv2
  clear htl
  go_wp2_with fail
  go_end0
  obtain ⟨q1, q2, q3, q4, q5, q6, q7, q8⟩ := hrest.out
  refine ⟨rfl, _, ⟨{ m2 with rl := rl', xl := xl', vv := vv', vhp := vhp' }, rfl, ⟨?_, ?_, ?_, ?_, ?_, ?_, ?_, ?_, ?_, ?_, ?_, ?_⟩, hf.none _⟩, S5.out⟩
  · show IsTable m2.tl m2.tb m2.M 0
    rw [q8]; exact ht1.out
  · show IsRecent rl' m2.rb (m2.cs.map Cell.key)
    rw [q6]; exact hR.out
  · exact hE.out
  · show SliceHp 3 _ m2.sv m2.ss.length (slotsCells m2.ss) m2.shp
    rw [q1, q3, q5]; exact .nil
  · show SliceHp 1 _ m2.fv m2.fr.length (frCells m2.fr) m2.fhp
    rw [q2, q4, q7]; exact .nil
  · exact hv2.out
  · show ([] : AL Itm) = m2.cs.map _
    rw [q6]; rfl
  · show m2.M.Perm (m2.cs.map _)
    rw [q6, q8]; exact List.Perm.refl _
  · show ∀ c ∈ m2.cs, _
    rw [q6]; intro c hc; cases hc
  · show (m2.fr ++ m2.cs.map Cell.at_).Perm (List.range m2.ss.length)
    rw [q5, q6, q7]; exact List.Perm.refl _
  · show ∀ s ∈ m2.ss, _
    rw [q5]; intro s hs; cases hs
  · show m2.ss.length ≤ _
    rw [q5]; exact Nat.zero_le _

end Go.Proofs.YthfngplckbggpaaGreatDoor

namespace Go.Proofs.YthfngplckbggpaaGreatDoor
open Go Go.RowKit

set_option maxRecDepth 100000 in
theorem persist_any {w0 w : World} {l r : Hp} {sb : Nat} {S : St} (hS : Step w0 [] w (l ++ r)) (hG : Glob w0) (hX : IsStore l sb S) (hev : S.ev.length ≤ 2199023255552) (key : ByteArray) (hk : key.size ≤ 1099511627776) (now : Int) :
    Calls Tryz.prog 62 #[ptr sb, .string key, .int .i64 now] w (StPost w0 r sb ((S.due key now).persist key) (.bool (mlook (S.due key now).D key).isSome)) := by
  have hdue := hid (due_any hS hG hX (by omega) key hk now)
  have hev2 := due_ev S key now
  generalize S.due key now = S' at hdue hev2 ⊢
  have hev3 : S'.ev.length ≤ 4398046511104 := by omega
  clear hS hX hev hev2
  go_enter Tryz.func62, Tryz.ntmps62
  go_wp2_with fail
  refine hdue.out.mono ?_
  rintro e w1 ⟨rfl, l1, hX1, S1⟩
  clear hdue
  obtain ⟨m, rfl, hok, hf⟩ := hX1
  have c4 := (stCells S1.own).c4
  have hD : S'.D.length ≤ 1099511627776 := by have := hf.fewD; have := hf.few; omega
  have hed := hid (edrop_any m.xl m.xb S'.D key w1 hok.exp hD (SM.ownX S1.own))
  have hst : Hid (∀ w' xl', IsExpiry xl' m.xb (mdel S'.D key) → Step w1 m.xl w' xl' → ∃ l', IsStore l' sb { S' with D := mdel S'.D key } ∧ Step w0 [] w' (l' ++ r)) := fun w' xl' h1 h2 =>
    ⟨_, ⟨{ m with xl := xl' }, rfl, ⟨hok.tab, hok.rcn, h1, hok.slots, hok.free, hok.evs, hok.cells, hok.num, hok.holds, hok.all, hok.each, hok.few⟩, hf.undue key S'.ev⟩, SM.stepX S1 h2⟩
  clear S1 hok hf hD
  cases hl : mlook S'.D key with
  | none =>
    have hlast : Hid (∀ w' l', IsStore l' sb { S' with D := mdel S'.D key } → Step w0 [] w' (l' ++ r) → StPost w0 r sb (S'.persist key) (.bool (none : Option Int).isSome) (.returned (.bool false)) w') := fun w' l' h1 h2 => ⟨rfl, l', by simpa [St.persist, hl] using h1, h2⟩
    replace hl := hid hl
    go_wp2_with fail
    refine hed.out.mono ?_
    rintro e w2 ⟨rfl, xl', hE, ST⟩
    obtain ⟨l2, hX2, S2⟩ := hst.out w2 xl' hE ST
    have hdone := hid (hlast.out w2 l2 hX2 S2)
    simp only [hl.out, Option.isSome_none]
    clear hed hE ST hX2 S2 hst hlast
    go_wp2_with fail
    go_ret
    rw [hl.out]
    exact hdone.out
  | some t =>
    have hlast : Hid (∀ w' l', IsStore l' sb { S' with D := mdel S'.D key, ev := S'.ev ++ [(1, key)] } → Step w0 [] w' (l' ++ r) → StPost w0 r sb (S'.persist key) (.bool (some t : Option Int).isSome) (.returned (.bool true)) w') := fun w' l' h1 h2 => ⟨rfl, l', by simpa [St.persist, hl] using h1, h2⟩
    replace hl := hid hl
    go_wp2_with fail
    refine hed.out.mono ?_
    rintro e w2 ⟨rfl, xl', hE, ST⟩
    obtain ⟨l2, hX2, S2⟩ := hst.out w2 xl' hE ST
    have htell := hid (tell_st S2 hX2 hev3 1 key)
    simp only [hl.out, Option.isSome_some]
    clear hed hE ST hX2 S2 hst
    go_wp2_with fail
    refine htell.out.mono ?_
    rintro e w3 ⟨rfl, l3, hX3, S3⟩
    have hdone := hid (hlast.out w3 l3 hX3 S3)
    clear htell hX3 S3 hlast
    go_wp2_with fail
    go_ret
    rw [hl.out]
    exact hdone.out

end Go.Proofs.YthfngplckbggpaaGreatDoor

namespace Go.Proofs.YthfngplckbggpaaGreatDoor
open Go Go.RowKit

/-- The commands of texts. -/
def textNames : List (List UInt8) := [[71, 69, 84], [83, 69, 84], [83, 69, 84, 78, 88], [71, 69, 84, 83, 69, 84], [71, 69, 84, 68, 69, 76], [77, 71, 69, 84], [77, 83, 69, 84], [73, 78, 67, 82], [68, 69, 67, 82], [73, 78, 67, 82, 66, 89], [68, 69, 67, 82, 66, 89], [73, 78, 67, 82, 66, 89, 70, 76, 79, 65, 84], [65, 80, 80, 69, 78, 68], [83, 84, 82, 76, 69, 78]]
def notText (sp : Sp) : Bool := textNames.all fun x => !(sp.name.toList == x)

set_option maxRecDepth 100000 in
set_option maxHeartbeats 4000000 in
theorem tno_any {w0 w : World} {l r : Hp} {sb : Nat} {S : St} {g off : Nat} {c : ByteArray} {ws : List ByteArray} (h : Ctx w0 w l r sb S g off (c :: ws)) (sp : Sp) (hc : wcheck (c :: ws) = (sp, ByteArray.empty)) (hm : notText sp = true) (now : Int) (cap : Nat) (hcap : (c :: ws).length ≤ cap) (hcap2 : cap ≤ 9223372036854775807) :
    Calls Tryz.prog 28 #[ptr sb, .int .i64 now, .slice (some ⟨g, off, none⟩) (c :: ws).length cap] w (NoPost w0 (l ++ r)) := by
  have H := h.alloc ZeroVal
  have hchk := check_some H.st (H.args.more (x := l)) cap
  rw [hc] at hchk
  clear hc
  unfold CheckPost Sp.val specVal at hchk
  simp only at hchk
  obtain ⟨n, hlen⟩ : ∃ n, (c :: ws).length = n := ⟨_, rfl⟩
  have hn : 0 < n := by rw [← hlen]; simp only [List.length_cons]; omega
  rw [hlen] at hchk hcap ⊢
  have hn1 : (1 : Int) ≤ (n : Int) := by omega
  have hn2 : (0 : Int) < (n : Int) := by omega
  have hnc : 1 ≤ cap := by omega
  have hnc2 : (1 : Int) ≤ (cap : Int) := by omega
  simp only [notText, textNames, List.all_cons, List.all_nil, Bool.and_true, Bool.and_eq_true, Bool.not_eq_true'] at hm
  obtain ⟨m1, m2, m3, m4, m5, m6, m7, m8, m9, m10, m11, m12, m13, m14⟩ := hm
  replace hlen := hid hlen
  replace hchk := hid hchk
  clear h H
  by_cases hc1 : cap - 1 = 0
  all_goals
    go_enter Tryz.func28, Tryz.ntmps28
    go_wp2_with fail
    refine hchk.out.mono ?_
    rintro e w2 ⟨rfl, S2⟩
    clear hchk
    go_upto_region 2 with fail
    have S3 := S2.alloc (.cells #[.string sp.name, .int .i64 sp.kind, .int .i64 sp.least, .int .i64 sp.most, .int .i64 sp.first, .int .i64 sp.last, .int .i64 sp.step] 48)
    generalize hw3 : w2.alloc _ = w3
    replace S3 : Step w0 [] w3 _ := hw3 ▸ S3
    clear hw3 S2
    generalize w2.heap.size = b1 at S3 ⊢
    generalize w.heap.size = b at S3 ⊢
    have nm := cells_get S3.own.head 0
    simp only [List.getElem?_toArray, List.getElem?_cons_zero] at nm
    replace S3 := hid S3
    go_upto_region 5 with fail
    have S4 := fun o => S3.out.alloc o
    generalize hw4 : w3.alloc _ = w4
    obtain ⟨jo, S4⟩ : ∃ jo, Step w0 [] w4 ((w3.heap.size, jo) :: _) := ⟨_, hw4 ▸ S4 _⟩
    clear hw4 S3 nm
    generalize w3.heap.size = b2 at S4 ⊢
    have nm := cells_get S4.own.tail.head 0
    simp only [List.getElem?_toArray, List.getElem?_cons_zero] at nm
    have S5 : Step w0 [] w4 ((b, ZeroVal) :: (l ++ r ++ [(b2, jo), (b1, .cells #[.string sp.name, .int .i64 sp.kind, .int .i64 sp.least, .int .i64 sp.most, .int .i64 sp.first, .int .i64 sp.last, .int .i64 sp.step] 48 (0, 0))])) := S4.permR (perm_by fun f => by
      simp only [List.map_append, List.sum_append, List.map_cons, List.sum_cons, List.map_nil, List.sum_nil]; omega)
    obtain ⟨⟨c0, hc0⟩, ⟨c1, hc1⟩, ⟨c2, hc2⟩, ⟨c3, hc3⟩, ⟨c4, hc4⟩, ⟨c5, hc5⟩, fz, hlt⟩ := cells6' S5.own.head
    have S9 := hid ((((((((S5.set 0 (.int .i64 0)).set 1 (.string ByteArray.empty)).set 2 (.int .i64 0)).set 3 (.float .f64 0)).set 4 (.bool false)).set 5 (.slice none 0 0)).less (List.sublist_cons_self _ _)).less (List.sublist_append_left _ _))
    clear S4 S5
    go_wp2_with fail
    refine bodyPost_ret (v := .tuple #[ansVal 0 ByteArray.empty 0 (.slice none 0 0), .bool false]) (by simp [results, Tryz.results28, go_sem, ansVal, *] <;> rfl) rfl ?_
    exact ⟨rfl, S9.out⟩

end Go.Proofs.YthfngplckbggpaaGreatDoor

namespace Go.Proofs.YthfngplckbggpaaGreatDoor
open Go Go.RowKit

set_option maxRecDepth 100000 in
set_option maxHeartbeats 4000000 in
/-- fields.Do, whatever the command that is none of hashes. -/
theorem fno_any {w0 w : World} {l r : Hp} {sb : Nat} {S : St} {g off : Nat} {c : ByteArray} {ws : List ByteArray} (h : Ctx w0 w l r sb S g off (c :: ws)) (sp : Sp) (hc : wcheck (c :: ws) = (sp, ByteArray.empty)) (hm : mlook doesMap sp.name = none) (now : Int) (cap : Nat) :
    Calls Tryz.prog 29 #[ptr sb, .int .i64 now, .slice (some ⟨g, off, none⟩) (c :: ws).length cap] w (NoPost w0 (l ++ r)) := by
  have H := h.alloc ZeroVal
  have hchk := check_some H.st (H.args.more (x := l)) cap
  rw [hc] at hchk
  clear hc
  unfold CheckPost Sp.val specVal at hchk
  simp only at hchk
  obtain ⟨n, hlen⟩ : ∃ n, (c :: ws).length = n := ⟨_, rfl⟩
  rw [hlen] at hchk ⊢
  replace hlen := hid hlen
  replace hchk := hid hchk
  replace hm := hid hm
  clear H h
  go_enter Tryz.func29, Tryz.ntmps29
  go_wp2_with fail
  refine hchk.out.mono ?_
  rintro e w2 ⟨rfl, S2⟩
  clear hchk
  go_upto_region 2 with fail
  have S3 := S2.alloc (.cells #[.string sp.name, .int .i64 sp.kind, .int .i64 sp.least, .int .i64 sp.most, .int .i64 sp.first, .int .i64 sp.last, .int .i64 sp.step] 48)
  generalize hw3 : w2.alloc _ = w3
  replace S3 : Step w0 [] w3 _ := hw3 ▸ S3
  clear hw3 S2
  generalize w2.heap.size = b1 at S3 ⊢
  generalize w.heap.size = b at S3 ⊢
  obtain ⟨R, hR⟩ : ∃ R : Hp, R = (b1, .cells #[.string sp.name, .int .i64 sp.kind, .int .i64 sp.least, .int .i64 sp.most, .int .i64 sp.first, .int .i64 sp.last, .int .i64 sp.step] 48 (0, 0)) :: (b, ZeroVal) :: (l ++ r) := ⟨_, rfl⟩
  have S4 : Step w0 [] w3 R := S3.permR (perm_by fun f => by
    rw [hR]; simp only [List.map_append, List.sum_append, List.map_cons, List.sum_cons]; omega)
  have hsm : (b1, .cells #[.string sp.name, .int .i64 sp.kind, .int .i64 sp.least, .int .i64 sp.most, .int .i64 sp.first, .int .i64 sp.last, .int .i64 sp.step] 48 (0, 0)) ∈ R := by rw [hR]; simp
  have hdoes : ∀ w', Hid (Step w0 [] w' R → _) := fun w' => hid fun hw => does_any hw
  have hs1 : Hid (Step w0 [] w3.drew R) := hid S4.drew
  have hx1 : Hid (InX w0 R w3.drew) := hid ⟨[], S4.drew⟩
  have hkeep : Hid (∀ w', Hid (InX w0 R w') → w'.cell? ⟨b1, 0, none⟩ = some (.string sp.name) ∧ Hid (InX w0 R w')) := hid fun w' hx => ⟨cells_get (InX.get hx hsm) 0, hx⟩
  have hzero : ∀ w', (zeroValue 116).run Tryz.prog w' = .ok .nilFunc w' := fun w' => by kernel_rfl
  clear S3 S4 hsm
  go_cut [10, 11] (fun s10 s11 wc => s11 = .bool false ∧ Hid (Step w0 [] wc R))
  case first =>
    go_region_held3 (fun w' => w'.cell? ⟨b1, 0, none⟩ = some (.string sp.name) ∧ Hid (InX w0 R w'))
      (first | (with_reducible exact hkeep.out _ hx1) | (with_reducible exact hkeep.out _ (by assumption)) | (fail "keep"))
      (first | (go_at_call 54; refine ((hdoes _).out hs1.out).mono ?_; rintro e w4 ⟨mb, o, rfl, hso, S5⟩; have hlk := run_look (P := Tryz.prog) (t := 118) Tryz.underlying118 Tryz.underlying9 hzero S5.own.head hso sp.name; rw [hm.out] at hlk; have hx2 : Hid (InX w0 R w4) := hid ⟨[(mb, o)], S5⟩; have S6 := hid (S5.less (List.sublist_cons_self _ _)); clear S5 hso))
    all_goals (
      go_wp2_with fail
      go_meet
      exact ⟨rfl, S6⟩)
  case rest =>
    obtain ⟨rfl, S5⟩ := hcut
    clear hdoes hs1 hx1 hkeep hzero
    have S6 : Step w0 [] wc ((b, ZeroVal) :: (l ++ r ++ [(b1, .cells #[.string sp.name, .int .i64 sp.kind, .int .i64 sp.least, .int .i64 sp.most, .int .i64 sp.first, .int .i64 sp.last, .int .i64 sp.step] 48 (0, 0))])) := S5.out.permR (perm_by fun f => by
      rw [hR]; simp only [List.map_append, List.sum_append, List.map_cons, List.sum_cons, List.map_nil, List.sum_nil]; omega)
    obtain ⟨⟨z0, hz0⟩, ⟨z1, hz1⟩, ⟨z2, hz2⟩, ⟨z3, hz3⟩, ⟨z4, hz4⟩, ⟨z5, hz5⟩, fz, hlt⟩ := cells6' S6.own.head
    have S9 := hid ((((((((S6.set 0 (.int .i64 0)).set 1 (.string ByteArray.empty)).set 2 (.int .i64 0)).set 3 (.float .f64 0)).set 4 (.bool false)).set 5 (.slice none 0 0)).less (List.sublist_cons_self _ _)).less (List.sublist_append_left _ _))
    replace hR := hid hR
    clear S5 S6
    go_wp2_with fail
    refine bodyPost_ret (v := .tuple #[ansVal 0 ByteArray.empty 0 (.slice none 0 0), .bool false]) (by simp [results, Tryz.results29, go_sem, ansVal, *] <;> rfl) rfl ?_
    exact ⟨rfl, S9.out⟩

end Go.Proofs.YthfngplckbggpaaGreatDoor

namespace Go.Proofs.YthfngplckbggpaaGreatDoor
open Go Go.RowKit

/-- In seconds, rounded up. -/
def secs (n : Int) : Int := if 0 < n then (n - 1) / 1000 + 1 else n
def lfYes (b : Bool) : Lf := lfInt (if b then 1 else 0)

set_option maxRecDepth 100000 in
theorem yes_any {w0 w : World} {r : Hp} (hS : Step w0 [] w r) (b : Bool) :
    Calls Tryz.prog 61 #[.bool b] w (AnsPost w0 r (lfVal (lfYes b))) := by
  have S1 := hS.alloc ZeroVal
  have hint := fun n => hid (vint_any S1 n)
  clear hS S1
  cases b
  all_goals
    go_enter Tryz.func61, Tryz.ntmps61
    go_wp2_with fail
    refine (hint _).out.mono ?_
    rintro e w1 ⟨rfl, S2⟩
    generalize w.heap.size = b at S2 ⊢
    obtain ⟨⟨c0, hc0⟩, ⟨c1, hc1⟩, ⟨c2, hc2⟩, ⟨c3, hc3⟩, ⟨c4, hc4⟩, ⟨c5, hc5⟩, fz, hlt⟩ := cells6 S2.own
    clear hint
    unfold ansVal
  · have S3 := hid (S2.setLf (lfInt 0))
    clear S2
    go_wp2_with fail
    refine bodyPost_ret (v := lfVal (lfYes false)) (by simp [results, Tryz.results61, go_sem, ansVal, lfVal, lfYes, lfInt, *] <;> rfl) rfl ?_
    exact ⟨rfl, S3.out⟩
  · have S3 := hid (S2.setLf (lfInt 1))
    clear S2
    go_wp2_with fail
    refine bodyPost_ret (v := lfVal (lfYes true)) (by simp [results, Tryz.results61, go_sem, ansVal, lfVal, lfYes, lfInt, *] <;> rfl) rfl ?_
    exact ⟨rfl, S3.out⟩

/-- Is it a command of keys? -/
def isKeys (p : Sp × ByteArray) : Bool := decide (p.2 = ByteArray.empty) && (decide (p.1.kind = 1) || decide (p.1.kind = 2))

theorem bytes_nil {b : ByteArray} : b.toList = [] ↔ b = ByteArray.empty := by
  rw [ByteArray.toList_eq]
  constructor
  · intro h; cases b; simp only [Array.toList_eq_nil_iff] at h; subst h; rfl
  · rintro rfl; rfl

set_option maxRecDepth 100000 in
set_option maxHeartbeats 1000000 in
theorem is_some {w0 w : World} {r : Hp} (hS : Step w0 [] w r) {g off : Nat} {c : ByteArray} {ws : List ByteArray} (hA : Args w0 r g off (c :: ws)) (cap : Nat) :
    Calls Tryz.prog 11 #[.slice (some ⟨g, off, none⟩) (c :: ws).length cap] w (fun e w' => e = .returned (.bool (isKeys (wcheck (c :: ws)))) ∧ Step w0 [] w' r) := by
  have hchk := check_some hS hA cap
  generalize wcheck (c :: ws) = T at hchk ⊢
  obtain ⟨sp, wrong⟩ := T
  unfold CheckPost Sp.val specVal at hchk
  simp only at hchk
  generalize (c :: ws).length = n at hchk ⊢
  replace hchk := hid hchk
  clear hS hA
  by_cases hw : wrong = ByteArray.empty
  · subst hw
    by_cases h1 : sp.kind = 1
    · have hres : Hid (isKeys (sp, ByteArray.empty) = true) := hid (by simp [isKeys, h1])
      have hb1 : (sp.kind == 1) = true := by simpa using h1
      clear h1
      go_enter Tryz.func11, Tryz.ntmps11
      go_wp2_with fail
      refine hchk.out.mono ?_
      rintro e w1 ⟨rfl, S1⟩
      clear hchk
      have S2 := hid (S1.alloc (.cells #[.string sp.name, .int .i64 sp.kind, .int .i64 sp.least, .int .i64 sp.most, .int .i64 sp.first, .int .i64 sp.last, .int .i64 sp.step] 48))
      clear S1
      go_wp2_with fail
      go_ret
      rw [hres.out]
      exact ⟨rfl, S2.out.less (List.sublist_cons_self _ _)⟩
    · have hb1 : (sp.kind == 1) = false := by simpa using h1
      by_cases h2 : sp.kind = 2
      · have hres : Hid (isKeys (sp, ByteArray.empty) = true) := hid (by simp [isKeys, h2])
        have hb2 : (sp.kind == 2) = true := by simpa using h2
        clear h1 h2
        go_enter Tryz.func11, Tryz.ntmps11
        go_wp2_with fail
        refine hchk.out.mono ?_
        rintro e w1 ⟨rfl, S1⟩
        clear hchk
        have S2 := hid (S1.alloc (.cells #[.string sp.name, .int .i64 sp.kind, .int .i64 sp.least, .int .i64 sp.most, .int .i64 sp.first, .int .i64 sp.last, .int .i64 sp.step] 48))
        clear S1
        go_wp2_with fail
        go_ret
        rw [hres.out]
        exact ⟨rfl, S2.out.less (List.sublist_cons_self _ _)⟩
      · have hres : Hid (isKeys (sp, ByteArray.empty) = false) := hid (by simp [isKeys, h1, h2])
        have hb2 : (sp.kind == 2) = false := by simpa using h2
        clear h1 h2
        go_enter Tryz.func11, Tryz.ntmps11
        go_wp2_with fail
        refine hchk.out.mono ?_
        rintro e w1 ⟨rfl, S1⟩
        clear hchk
        have S2 := hid (S1.alloc (.cells #[.string sp.name, .int .i64 sp.kind, .int .i64 sp.least, .int .i64 sp.most, .int .i64 sp.first, .int .i64 sp.last, .int .i64 sp.step] 48))
        clear S1
        go_wp2_with fail
        go_ret
        rw [hres.out]
        exact ⟨rfl, S2.out.less (List.sublist_cons_self _ _)⟩
  · have hres : Hid (isKeys (sp, wrong) = false) := hid (by simp [isKeys, hw])
    have hw1 : ¬ wrong.toList = [] := fun h => hw (bytes_nil.1 h)
    have hw2 : wrong.toList.isEmpty = false := by simpa using hw1
    clear hw
    go_enter Tryz.func11, Tryz.ntmps11
    go_wp2_with fail
    refine hchk.out.mono ?_
    rintro e w1 ⟨rfl, S1⟩
    clear hchk
    have S2 := hid (S1.alloc (.cells #[.string sp.name, .int .i64 sp.kind, .int .i64 sp.least, .int .i64 sp.most, .int .i64 sp.first, .int .i64 sp.last, .int .i64 sp.step] 48))
    clear S1
    go_wp2_with fail
    go_ret
    rw [hres.out]
    exact ⟨rfl, S2.out.less (List.sublist_cons_self _ _)⟩

/-- A key ends: what is answered. -/
def eExpire (S : St) (now : Int) (key text : ByteArray) (unit : Int) : St × Lf :=
  match wnum text with
  | none => (S, lfErr 11)
  | some n => if 0 ≤ n then (if (whenOf now n unit).2 = 0 then ((S.due key now).expire key (whenOf now n unit).1 now, lfYes (mlook (S.due key now).L key).isSome) else (S, lfErr (whenOf now n unit).2))
    else ((S.due key now).expire key now now, lfYes (mlook (S.due key now).L key).isSome)


set_option maxRecDepth 100000 in
set_option maxHeartbeats 2000000 in
theorem eexpire_any {w0 w : World} {l r : Hp} {sb : Nat} {S : St} (hS : Step w0 [] w (l ++ r)) (hG : Glob w0) (hX : IsStore l sb S) (hev : S.ev.length ≤ 1099511627776) (key text : ByteArray) (hk : key.size ≤ 1099511627776) (ht : text.size ≤ 1099511627776) (now unit : Int) (hnow : 0 ≤ now ∧ now ≤ 4611686018427387904) (hu : unit = 1 ∨ unit = 1000) :
    Calls Tryz.prog 60 #[ptr sb, .int .i64 now, .string key, .string text, .int .i64 unit] w (StPost w0 r sb (eExpire S now key text unit).1 (lfVal (eExpire S now key text unit).2)) := by
  have S0 := hS.alloc ZeroVal
  have hparse := hid (wparse_any S0 hG text ht)
  obtain ⟨B, hB⟩ : ∃ B, B = w.heap.size := ⟨_, rfl⟩
  have herr : ∀ (w' : World) (c : Int), Hid (errKnown c) → Hid (Calls _ _ _ w' _) := fun w' c h => hid (werr_any w' c h.out)
  have hfl : ∀ (w' : World) (c : Int), Hid (Step w0 [] w' ((B, ZeroVal) :: (l ++ r))) → Hid (Calls _ _ _ w' _) := fun w' c hS' => hid (vfail_any hS'.out (errText c))
  have hexp : ∀ (w' : World) (t : Int), t ≤ 9223372036854775807 → Hid (Step w0 [] w' ((B, ZeroVal) :: (l ++ r))) → Hid (Calls _ _ _ w' _) := fun w' t ht hS' =>
    hid (expire_any (r := (B, ZeroVal) :: r) (hS'.out.permR (perm_by fun f => by simp only [List.map_append, List.sum_append, List.map_cons, List.sum_cons]; omega)) hG hX (by omega) key hk t now hnow.1 ht)
  have hyes : ∀ (w' : World) (b : Bool) (l' : Hp), Hid (Step w0 [] w' (l' ++ ((B, ZeroVal) :: r))) → Hid (Calls _ _ _ w' _) := fun w' b l' hS' => hid (yes_any (hS'.out.permR (l2 := (B, ZeroVal) :: (l' ++ r)) (perm_by fun f => by simp only [List.map_append, List.sum_append, List.map_cons, List.sum_cons]; omega)) b)
  have hX0 := hid hX
  have hw0 : Hid (w.heap.size = B) := hid hB.symm
  rw [← hB] at hparse
  clear S0 hS hX hB hG hev hk
  cases hp : wnum text with
  | none =>
    have hres : Hid (eExpire S now key text unit = (S, lfErr 11)) := hid (by simp [eExpire, hp])
    rw [hp] at hparse
    simp only [wcode, Option.isSome_none, Option.getD_none, Bool.false_eq_true, if_false] at hparse
    replace hnow := hid hnow
    replace hu := hid hu
    have h3 := fun w' => herr w' 11 (hid (.inl rfl))
    have h2 := fun w' => hfl w' 11
    unfold lfErr at hres
    generalize errText 11 = te at h2 h3 hres
    clear hp hexp hyes hfl herr
    go_enter Tryz.func60, Tryz.ntmps60
    go_wp2_with fail
    rw [hw0.out]
    refine hparse.out.mono ?_
    rintro e w1 ⟨rfl, S1⟩
    replace h2 := h2 w1 (hid S1)
    replace h3 := h3 w1
    clear hparse S1
    go_wp2_with fail
    refine h3.out.mono ?_
    rintro e w2 ⟨rfl, rfl⟩
    go_wp2_with fail
    refine h2.out.mono ?_
    rintro e w2 ⟨rfl, S2⟩
    obtain ⟨⟨c0, hc0⟩, ⟨c1, hc1⟩, ⟨c2, hc2⟩, ⟨c3, hc3⟩, ⟨c4, hc4⟩, ⟨c5, hc5⟩, fz, hlt⟩ := cells6 S2.own
    have S3 := hid (S2.setLf ⟨2, te, 0⟩)
    clear S2 h2 h3
    unfold ansVal
    go_wp2_with fail
    refine bodyPost_ret (v := lfVal ⟨2, te, 0⟩) (by simp [results, Tryz.results60, go_sem, ansVal, lfVal, *] <;> rfl) rfl ?_
    rw [hres.out]
    exact ⟨rfl, l, hX0.out, S3.out⟩
  | some n =>
    obtain ⟨hn1, hn2⟩ := wnum_bounds hp
    rw [hp] at hparse
    simp only [wcode, Option.isSome_some, Option.getD_some, if_true] at hparse
    obtain ⟨hnow1, hnow2⟩ := hnow
    by_cases hn : 0 ≤ n
    · have hwhen : ∀ w' : World, Hid (Calls Tryz.prog 114 #[.int .i64 now, .int .i64 n, .int .i64 unit] w' fun e w'' => e = .returned (.tuple #[.int .i64 (whenOf now n unit).1, .int .i64 (whenOf now n unit).2]) ∧ w' = w'') := fun w' => hid (by
        rcases hu with rfl | rfl
        · exact when_1 now n w' ⟨by omega, by omega⟩ ⟨hn1, hn2⟩
        · exact when_1000 now n w' ⟨by omega, by omega⟩ ⟨hn1, hn2⟩)
      have hkn := whenOf_known now n unit
      have hle := whenOf_le now n unit
      have hres : eExpire S now key text unit = if (whenOf now n unit).2 = 0 then ((S.due key now).expire key (whenOf now n unit).1 now, lfYes (mlook (S.due key now).L key).isSome) else (S, lfErr (whenOf now n unit).2) := by simp [eExpire, hp, hn]
      generalize whenOf now n unit = T at hwhen hkn hle hres
      obtain ⟨t, c⟩ := T
      simp only at hwhen hkn hle hres
      replace hu := hid hu
      clear hp
      rcases hkn with rfl | rfl
      · rw [if_pos rfl] at hres
        replace hres := hid hres
        go_enter Tryz.func60, Tryz.ntmps60
        go_wp2_with fail
        rw [hw0.out]
        refine hparse.out.mono ?_
        rintro e w1 ⟨rfl, S1⟩
        go_wp2_with fail
        refine (hwhen _).out.mono ?_
        rintro e w2 ⟨rfl, rfl⟩
        clear hwhen
        have h2 := hexp w1 t (by omega) (hid S1)
        clear hparse S1 hfl herr hexp
        go_wp2_with fail
        refine h2.out.mono ?_
        rintro e w2 ⟨rfl, l2, hX2, S2⟩
        have h3 := hyes w2 (mlook (S.due key now).L key).isSome l2 (hid S2)
        clear h2 hyes
        obtain ⟨bb, hbb⟩ : ∃ bb, bb = (mlook (S.due key now).L key).isSome := ⟨_, rfl⟩
        rw [← hbb] at hres h3 ⊢
        clear hbb S2
        replace hX2 := hid hX2
        go_wp2_with fail
        refine h3.out.mono ?_
        rintro e w3 ⟨rfl, S3⟩
        obtain ⟨⟨c0, hc0⟩, ⟨c1, hc1⟩, ⟨c2, hc2⟩, ⟨c3, hc3⟩, ⟨c4, hc4⟩, ⟨c5, hc5⟩, fz, hlt⟩ := cells6 S3.own
        have S4 := hid (S3.setLf (lfYes bb))
        clear S3 h3
        unfold lfVal ansVal
        go_wp2_with fail
        refine bodyPost_ret (v := lfVal (lfYes bb)) (by simp [results, Tryz.results60, go_sem, ansVal, lfVal, lfYes, lfInt, *] <;> rfl) rfl ?_
        rw [hres.out]
        exact ⟨rfl, l2, hX2.out, S4.out⟩
      · rw [if_neg (by decide)] at hres
        replace hres := hid hres
        have h3 := fun w' => herr w' 111 (hid (.inr (.inr (.inl rfl))))
        have h2 := fun w' => hfl w' 111
        unfold lfErr at hres
        generalize errText 111 = te at h2 h3 hres
        clear hexp hyes hfl herr
        go_enter Tryz.func60, Tryz.ntmps60
        go_wp2_with fail
        rw [hw0.out]
        refine hparse.out.mono ?_
        rintro e w1 ⟨rfl, S1⟩
        go_wp2_with fail
        refine (hwhen _).out.mono ?_
        rintro e w2 ⟨rfl, rfl⟩
        clear hwhen
        replace h2 := h2 w1 (hid S1)
        replace h3 := h3 w1
        clear hparse S1
        go_wp2_with fail
        refine h3.out.mono ?_
        rintro e w2 ⟨rfl, rfl⟩
        go_wp2_with fail
        refine h2.out.mono ?_
        rintro e w2 ⟨rfl, S2⟩
        obtain ⟨⟨c0, hc0⟩, ⟨c1, hc1⟩, ⟨c2, hc2⟩, ⟨c3, hc3⟩, ⟨c4, hc4⟩, ⟨c5, hc5⟩, fz, hlt⟩ := cells6 S2.own
        have S3 := hid (S2.setLf ⟨2, te, 0⟩)
        clear S2 h2 h3
        unfold ansVal
        go_wp2_with fail
        refine bodyPost_ret (v := lfVal ⟨2, te, 0⟩) (by simp [results, Tryz.results60, go_sem, ansVal, lfVal, *] <;> rfl) rfl ?_
        rw [hres.out]
        exact ⟨rfl, l, hX0.out, S3.out⟩
    · have hres : Hid (eExpire S now key text unit = ((S.due key now).expire key now now, lfYes (mlook (S.due key now).L key).isSome)) := hid (by simp [eExpire, hp, hn])
      replace hu := hid hu
      clear hp
      go_enter Tryz.func60, Tryz.ntmps60
      go_wp2_with fail
      rw [hw0.out]
      refine hparse.out.mono ?_
      rintro e w1 ⟨rfl, S1⟩
      have h2 := hexp w1 now (by omega) (hid S1)
      clear hparse S1 hfl herr hexp
      go_wp2_with fail
      refine h2.out.mono ?_
      rintro e w2 ⟨rfl, l2, hX2, S2⟩
      have h3 := hyes w2 (mlook (S.due key now).L key).isSome l2 (hid S2)
      clear h2 hyes
      obtain ⟨bb, hbb⟩ : ∃ bb, bb = (mlook (S.due key now).L key).isSome := ⟨_, rfl⟩
      rw [← hbb] at hres h3 ⊢
      clear hbb S2
      replace hX2 := hid hX2
      go_wp2_with fail
      refine h3.out.mono ?_
      rintro e w3 ⟨rfl, S3⟩
      obtain ⟨⟨c0, hc0⟩, ⟨c1, hc1⟩, ⟨c2, hc2⟩, ⟨c3, hc3⟩, ⟨c4, hc4⟩, ⟨c5, hc5⟩, fz, hlt⟩ := cells6 S3.own
      have S4 := hid (S3.setLf (lfYes bb))
      clear S3 h3
      unfold lfVal ansVal
      go_wp2_with fail
      refine bodyPost_ret (v := lfVal (lfYes bb)) (by simp [results, Tryz.results60, go_sem, ansVal, lfVal, lfYes, lfInt, *] <;> rfl) rfl ?_
      rw [hres.out]
      exact ⟨rfl, l2, hX2.out, S4.out⟩

end Go.Proofs.YthfngplckbggpaaGreatDoor

namespace Go.Proofs.YthfngplckbggpaaGreatDoor
open Go

def ePersist (S : St) (now : Int) (key : ByteArray) : St × Lf := ((S.due key now).persist key, lfYes (mlook (S.due key now).D key).isSome)
def ePttl (S : St) (now : Int) (key : ByteArray) : St × Lf := (S.due key now, lfInt ((S.due key now).ttl key now))
def eTtl (S : St) (now : Int) (key : ByteArray) : St × Lf := (S.due key now, lfInt (secs ((S.due key now).ttl key now)))
def eFlush (S : St) : St × Lf := (S.flush, lfOk)
abbrev kv : ByteArray := ⟨#[118]⟩
def eNo (ev : List (Int × ByteArray)) : St := ⟨[], [], ev, 10000⟩
def eYes (D : AL Int) (ev : List (Int × ByteArray)) : St := one kk (textItm kv) D ev 10000
/-- Behind the command that lets it end. -/
def eSt (long : Nat) : St := if long = 0 then eNo [] else eYes [(kk, (long : Int))] []
/-- What is left of it at a time. -/
def eAt (long wait : Nat) : St := if long ≤ wait then eNo [] else eYes [(kk, (long : Int))] []

theorem e_new : newSt 10000 = eNo [] := by
  have : (max 0 (min (10000 : Int) 1000000000000)).toNat = 10000 := by decide
  rw [newSt, this]; rfl
theorem e_set : tSet (newSt 10000) 0 kk kv [] = (eYes [] [(1, kk)], lfOk) := by
  have hb : newSt 10000 = ⟨[], [], [], 10000⟩ := e_new
  have := new_set (b := 10000) (bud := 10000) hb (by decide) (s := kv) (by decide) 0
  exact this
theorem e_expire (long : Nat) (hl : long ≤ 65535) : ∃ ev, ((eYes [] []).due kk 0).expire kk long 0 = { eSt long with ev := ev } ∧ ev.length = 1 := by
  have hd : (eYes [] []).due kk 0 = eYes [] [] := one_due_nil 0
  have hm : (mlook (eYes [] []).L kk).isSome = true := by simp [eYes, one, mlook]
  rw [hd, St.expire, if_pos hm]
  by_cases h0 : long = 0
  · subst h0
    refine ⟨[(2, kk)], ?_, rfl⟩
    rw [if_pos (by decide), eSt, if_pos rfl]
    rfl
  · refine ⟨[(1, kk)], ?_, rfl⟩
    rw [if_neg (by omega), eSt, if_neg h0]
    have hc : capTime (long : Int) = long := by unfold capTime; omega
    have hp : mput (eYes [] []).D kk (capTime (long : Int)) = [(kk, (long : Int))] := by rw [hc]; rfl
    rw [hp]; rfl
theorem e_due (long wait : Nat) : ∃ ev, (eSt long).due kk wait = { eAt long wait with ev := ev } ∧ ev.length ≤ 1 := by
  by_cases h0 : long = 0
  · subst h0
    refine ⟨[], ?_, by simp⟩
    rw [eSt, if_pos rfl, eAt, if_pos (Nat.zero_le _)]; rfl
  · rw [eSt, if_neg h0]
    by_cases h1 : long ≤ wait
    · refine ⟨[(3, kk)], ?_, by simp⟩
      rw [eAt, if_pos h1]
      have : (long : Int) ≤ (wait : Int) := by omega
      simp [St.due, eYes, one, mlook, this, St.gone, eNo, mdel]
    · refine ⟨[], ?_, by simp⟩
      rw [eAt, if_neg h1]
      exact one_due_end (by omega)
theorem e_again (long wait : Nat) : (eAt long wait).due kk wait = eAt long wait := by
  by_cases h1 : long ≤ wait
  · rw [eAt, if_pos h1]; rfl
  · rw [eAt, if_neg h1]; exact one_due_end (by omega)
theorem e_ttl (long wait : Nat) : (eAt long wait).ttl kk wait = if long ≤ wait then -2 else (long : Int) - wait := by
  by_cases h1 : long ≤ wait
  · rw [eAt, if_pos h1, if_pos h1]; rfl
  · rw [eAt, if_neg h1, if_neg h1]
    simp [St.ttl, eYes, one, mlook]
/-- Made to last. -/
def eLast (long wait : Nat) : St := if long ≤ wait then eNo [] else eYes [] []
theorem e_persist (long wait : Nat) : ∃ ev, (eAt long wait).persist kk = { eLast long wait with ev := ev } ∧ ev.length ≤ 1 ∧ (mlook (eAt long wait).D kk).isSome = !decide (long ≤ wait) := by
  by_cases h1 : long ≤ wait
  · refine ⟨[], ?_, by simp, ?_⟩
    · rw [eAt, if_pos h1, eLast, if_pos h1]; rfl
    · rw [eAt, if_pos h1]; simp [eNo, mlook, h1]
  · refine ⟨[(1, kk)], ?_, by simp, ?_⟩
    · rw [eAt, if_neg h1, eLast, if_neg h1]
      simp [St.persist, eYes, one, mlook, mdel]
    · rw [eAt, if_neg h1]; simp [eYes, one, mlook, h1]
theorem e_last (long wait : Nat) : (eLast long wait).due kk wait = eLast long wait ∧ (eLast long wait).ttl kk wait = if long ≤ wait then -2 else -1 := by
  by_cases h1 : long ≤ wait
  · rw [eLast, if_pos h1, if_pos h1]; exact ⟨rfl, rfl⟩
  · rw [eLast, if_neg h1, if_neg h1]; exact ⟨one_due_nil _, by simp [St.ttl, eYes, one, mlook]⟩
theorem secs_near (n : Int) (h : 0 < n) : n ≤ secs n * 1000 ∧ secs n * 1000 < n + 1000 := by
  unfold secs; rw [if_pos h]; omega

theorem e_set' (now : Int) : tSet (newSt 10000) now kk kv [] = (eYes [] [(1, kk)], lfOk) := new_set (b := 10000) (bud := 10000) e_new (by decide) (s := kv) (by decide) now
theorem eYes_ok (D : AL Int) (ev : List (Int × ByteArray)) (h : ev.length ≤ 10) : Tight (eYes D ev) ∧ (eYes D ev).load ≤ 1000000000000 :=
  ⟨one_tight (Nat.le_trans (cost_kk (by decide)) (by decide)), by show ev.length + 1 ≤ _; omega⟩
theorem eNo_ok (ev : List (Int × ByteArray)) (h : ev.length ≤ 10) : Tight (eNo ev) ∧ (eNo ev).load ≤ 1000000000000 :=
  ⟨Nat.zero_le _, by show ev.length + 0 ≤ _; omega⟩
theorem eSt_ok (long : Nat) : Tight (eSt long) ∧ (eSt long).load ≤ 1000000000000 := by
  unfold eSt
  split
  · exact eNo_ok [] (by decide)
  · exact eYes_ok _ [] (by decide)
theorem eAt_ok (long wait : Nat) : Tight (eAt long wait) ∧ (eAt long wait).load ≤ 1000000000000 := by
  unfold eAt
  split
  · exact eNo_ok [] (by decide)
  · exact eYes_ok _ [] (by decide)
theorem eLast_ok (long wait : Nat) : Tight (eLast long wait) ∧ (eLast long wait).load ≤ 1000000000000 := by
  unfold eLast
  split
  · exact eNo_ok [] (by decide)
  · exact eYes_ok _ [] (by decide)
theorem St.told_self {S : St} (h : S.ev = []) (ev : List (Int × ByteArray)) : ({ { S with ev := ev } with ev := [] } : St) = S := by cases S; simp_all
theorem eSt_ev (long : Nat) : (eSt long).ev = [] := by unfold eSt; split <;> rfl
theorem eAt_ev (long wait : Nat) : (eAt long wait).ev = [] := by unfold eAt; split <;> rfl
theorem eLast_ev (long wait : Nat) : (eLast long wait).ev = [] := by unfold eLast; split <;> rfl
theorem eAt_D {long wait : Nat} {t : Int} (h : mlook (eAt long wait).D kk = some t) : t = long := by
  unfold eAt at h
  split at h
  · cases h
  · simpa [eYes, one, mlook] using h.symm
theorem eLast_D {long wait : Nat} {t : Int} (h : mlook (eLast long wait).D kk = some t) : False := by
  unfold eLast at h
  split at h <;> cases h

/-! What each command of the law answers. -/
theorem q_pexpire (long : Nat) (hl : long ≤ 65535) : ∃ ev, eExpire (eYes [] []) 0 kk (wtext long) 1 = ({ eSt long with ev := ev }, lfYes true) := by
  obtain ⟨ev, h, _⟩ := e_expire long hl
  refine ⟨ev, ?_⟩
  have hw : wnum (wtext (long : Int)) = some (long : Int) := wnum_wtext (by omega) (by omega)
  have hwh : whenOf 0 (long : Int) 1 = ((long : Int), 0) := by
    have ha : wadd 0 ((long : Int) * 1) = some (long : Int) := by unfold wadd; rw [if_pos (by omega)]; simp
    unfold whenOf
    rw [if_neg (by simp only [Int.tdiv_one]; omega), ha]
    simp only
    rw [if_neg (by omega)]
  have hd : (eYes [] []).due kk 0 = eYes [] [] := one_due_nil 0
  unfold eExpire
  rw [hw]
  simp only
  rw [if_pos (by omega), hwh, if_pos rfl, h, hd]
  rfl
theorem q_pttl (long wait : Nat) : ∃ ev, ePttl (eSt long) wait kk = ({ eAt long wait with ev := ev }, lfInt (if long ≤ wait then -2 else (long : Int) - wait)) := by
  obtain ⟨ev, h, _⟩ := e_due long wait
  refine ⟨ev, ?_⟩
  unfold ePttl
  rw [h]
  have : ({ eAt long wait with ev := ev } : St).ttl kk wait = (eAt long wait).ttl kk wait := rfl
  rw [this, e_ttl]
theorem q_hr1 (long wait : Nat) (hl : long ≤ 65535) (hw : wait ≤ 65535) : ∀ t, mlook ((eSt long).due kk wait).D kk = some t → -9223372036854775808 ≤ t - (wait : Int) ∧ t - (wait : Int) ≤ 9223372036854775807 := by
  intro t ht
  obtain ⟨ev, h, _⟩ := e_due long wait
  rw [h] at ht
  have := eAt_D (long := long) (wait := wait) ht
  omega
theorem q_ttl (long wait : Nat) : eTtl (eAt long wait) wait kk = (eAt long wait, lfInt (if long ≤ wait then -2 else secs ((long : Int) - wait))) := by
  unfold eTtl
  rw [e_again, e_ttl]
  split <;> rfl
theorem q_hr2 (long wait : Nat) (hl : long ≤ 65535) (hw : wait ≤ 65535) : ∀ t, mlook ((eAt long wait).due kk wait).D kk = some t → -9223372036854775808 ≤ t - (wait : Int) ∧ t - (wait : Int) ≤ 9223372036854775807 := by
  intro t ht
  rw [e_again] at ht
  have := eAt_D ht
  omega
theorem q_persist (long wait : Nat) : ∃ ev, ePersist (eAt long wait) wait kk = ({ eLast long wait with ev := ev }, lfYes (!decide (long ≤ wait))) := by
  obtain ⟨ev, h, _, h2⟩ := e_persist long wait
  refine ⟨ev, ?_⟩
  unfold ePersist
  rw [e_again, h, h2]
theorem q_ttl2 (long wait : Nat) : eTtl (eLast long wait) wait kk = (eLast long wait, lfInt (if long ≤ wait then -2 else -1)) := by
  unfold eTtl
  rw [(e_last long wait).1, (e_last long wait).2]
  split <;> rfl
theorem q_hr3 (long wait : Nat) : ∀ t, mlook ((eLast long wait).due kk wait).D kk = some t → -9223372036854775808 ≤ t - (wait : Int) ∧ t - (wait : Int) ≤ 9223372036854775807 := by
  intro t ht
  rw [(e_last long wait).1] at ht
  exact (eLast_D ht).elim

end Go.Proofs.YthfngplckbggpaaGreatDoor

namespace Go.Proofs.YthfngplckbggpaaGreatDoor
open Go Go.RowKit


/-- What own's own blocks are. -/
abbrev OwnBox (B sb : Nat) (now : Int) : Hp := [(B + 1 + 1, ZeroVal), (B + 1, .cells #[.int .i64 now] 2 (0, 0)), (B, .cells #[ptr sb] 23 (0, 0))]
structure OwnAt (w : World) (B sb : Nat) (now : Int) : Prop where
  a0 : w.cell? ⟨B, 0, none⟩ = some (ptr sb)
  a1 : w.cell? ⟨B + 1, 0, none⟩ = some (.int .i64 now)
theorem ownAt {w0 w : World} {B sb : Nat} {now : Int} {x r : Hp} (h : Step w0 [] w (x ++ (OwnBox B sb now ++ r))) : OwnAt w B sb now :=
  ⟨cells_get (h.own.right.left.at_ (B, .cells #[ptr sb] 23 (0, 0)) (by simp)) 0, cells_get (h.own.right.left.at_ (B + 1, .cells #[.int .i64 now] 2 (0, 0)) (by simp)) 0⟩
theorem ownBox {w0 w : World} {l r : Hp} {sb : Nat} {now : Int} (h : Step w0 [] w (l ++ r)) : Step w0 [] (((w.alloc (.cells #[ptr sb] 23)).alloc (.cells #[.int .i64 now] 2)).alloc ZeroVal) (l ++ (OwnBox w.heap.size sb now ++ r)) := by
  have h3 := ((h.alloc (.cells #[ptr sb] 23)).alloc (.cells #[.int .i64 now] 2)).alloc ZeroVal
  simp only [World.size_alloc] at h3
  exact h3.permR (perm_by fun f => by simp only [List.map_append, List.sum_append, List.map_cons, List.sum_cons, List.map_nil, List.sum_nil]; omega)
theorem ownTop {w0 w : World} {l r : Hp} {B sb : Nat} {now : Int} (h : Step w0 [] w (l ++ (OwnBox B sb now ++ r))) : Step w0 [] w ((B + 1 + 1, ZeroVal) :: (l ++ r ++ [(B + 1, .cells #[.int .i64 now] 2 (0, 0)), (B, .cells #[ptr sb] 23 (0, 0))])) :=
  h.permR (perm_by fun f => by simp only [List.map_append, List.sum_append, List.map_cons, List.sum_cons, List.map_nil, List.sum_nil]; omega)
theorem ownEnd {w0 w : World} {l r : Hp} {B sb : Nat} {now : Int} {o : Obj} (h : Step w0 [] w (l ++ r ++ [(B + 1, .cells #[.int .i64 now] 2 (0, 0)), (B, .cells #[ptr sb] 23 (0, 0))])) : Step w0 [] w (l ++ r) := h.less (List.sublist_append_left _ _)

set_option maxRecDepth 100000 in
set_option maxHeartbeats 2000000 in
theorem own_EXPIRE {w0 w : World} {l r : Hp} {sb : Nat} {S : St} {g off : Nat} {k m : ByteArray} {ws : List ByteArray} (h : Ctx w0 w l r sb S g off (k :: m :: ws)) (now : Int) (hnow : 0 ≤ now ∧ now ≤ 4611686018427387904) (cap : Nat) :
    Calls Tryz.prog 30 #[ptr sb, .int .i64 now, .string ⟨#[69, 88, 80, 73, 82, 69]⟩, .slice (some ⟨g, off, none⟩) (k :: m :: ws).length cap] w (StPost w0 r sb (eExpire S now k m 1000).1 (lfVal (eExpire S now k m 1000).2)) := by
  obtain ⟨L, hL⟩ : ∃ L : Hp, L = l ++ (OwnBox w.heap.size sb now ++ r) := ⟨_, rfl⟩
  have hS := ownBox (sb := sb) (now := now) h.st
  rw [← hL] at hS
  have hin : ∀ w', Step w0 [] w' L → Step w0 [] w' (l ++ (OwnBox w.heap.size sb now ++ r)) := fun w' q => by rw [hL] at q; exact q
  have hG := hid h.gl
  have hX := hid h.is
  have hev := hid h.ev
  have hks := hid (h.args.small k (by simp))
  have hms := hid (h.args.small m (by simp))
  have harg : ∀ p : InW w0 [] L, p.w.cell? ⟨g, off, none⟩ = some (.string k) := fun p => h.args.at_ p.w (l ++ OwnBox w.heap.size sb now) (by rw [List.append_assoc]; exact hin _ p.h) 0 k rfl
  have harg2 : ∀ p : InW w0 [] L, p.w.cell? ⟨g, off + 1, none⟩ = some (.string m) := fun p => h.args.at_ p.w (l ++ OwnBox w.heap.size sb now) (by rw [List.append_assoc]; exact hin _ p.h) 1 m rfl
  have ha0 : ∀ p : InW w0 [] L, p.w.cell? ⟨w.heap.size, 0, none⟩ = some (ptr sb) := fun p => (ownAt (hin _ p.h)).a0
  have ha1 : ∀ p : InW w0 [] L, p.w.cell? ⟨w.heap.size + 1, 0, none⟩ = some (.int .i64 now) := fun p => (ownAt (hin _ p.h)).a1
  have hn : 1 < (k :: m :: ws).length := by simp only [List.length_cons]; omega
  generalize (k :: m :: ws).length = n at hn ⊢
  have hn0 : 0 < n := by omega
  have hn1 : (0 : Int) < (n : Int) := by omega
  have hn2 : (1 : Int) < (n : Int) := by omega
  generalize hb : w.heap.size = B at hS hL ha0 ha1
  replace hb := hid hb
  replace hS := hid hS
  replace hL := hid hL
  clear h hin
  obtain ⟨T, hT⟩ : ∃ T, T = (eExpire S now k m 1000) := ⟨_, rfl⟩
  rw [← hT]
  replace hT := hid hT
  replace hnow := hid hnow
  go_enter Tryz.func30, Tryz.ntmps30
  go_wp2_with fail
  rw [hb.out]
  generalize hw1 : ((w.alloc _).alloc _).alloc _ = w1
  replace hS : Step w0 [] w1 _ := hw1 ▸ hS.out
  clear hw1
  refine wp_region_tail 8 hS (by kernel_rfl) (by kernel_rfl) (fun hne => ?_)
  simp only [List.take_succ_cons, List.take_zero, List.drop_succ_cons, List.drop_zero]
  replace hS := hid hS
  repeat (go_big_quiet_step (fail))
  refine tail_nil fun w7 S10 => ?_
  clear harg harg2 ha0 ha1 hne hS
  rw [hL.out] at S10
  have hcall := hid (eexpire_any (r := OwnBox B sb now ++ r) S10 hG.out hX.out (by have := hev.out; omega) k m hks.out hms.out now 1000 hnow.out (by decide))
  clear S10
  go_wp2_with fail
  refine hcall.out.mono ?_
  rintro e w8 ⟨rfl, l3, hX3, S11⟩
  clear hcall
  replace hX3 := hid hX3
  replace S11 := ownTop S11
  have S12 := S11
  clear S11
  obtain ⟨a, ha⟩ : ∃ a, a = (eExpire S now k m 1000).2 := ⟨_, rfl⟩
  rw [← ha]
  replace ha := hid ha
  obtain ⟨⟨c0, hc0⟩, ⟨c1, hc1⟩, ⟨c2, hc2⟩, ⟨c3, hc3⟩, ⟨c4, hc4⟩, ⟨c5, hc5⟩, fz, hlt⟩ := cells6 S12.own
  have S13 := hid (ownEnd (o := ZeroVal) (S12.setLf a))
  clear S12 hX
  unfold lfVal ansVal
  go_wp2_with fail
  refine bodyPost_ret (v := lfVal a) (by simp [results, Tryz.results30, go_sem, ansVal, lfVal, lfYes, lfInt, lfOk, *] <;> rfl) rfl ?_
  rw [hT.out, ← ha.out]
  exact ⟨rfl, l3, hX3.out, S13.out⟩

set_option maxRecDepth 100000 in
set_option maxHeartbeats 2000000 in
theorem own_PEXPIRE {w0 w : World} {l r : Hp} {sb : Nat} {S : St} {g off : Nat} {k m : ByteArray} {ws : List ByteArray} (h : Ctx w0 w l r sb S g off (k :: m :: ws)) (now : Int) (hnow : 0 ≤ now ∧ now ≤ 4611686018427387904) (cap : Nat) :
    Calls Tryz.prog 30 #[ptr sb, .int .i64 now, .string ⟨#[80, 69, 88, 80, 73, 82, 69]⟩, .slice (some ⟨g, off, none⟩) (k :: m :: ws).length cap] w (StPost w0 r sb (eExpire S now k m 1).1 (lfVal (eExpire S now k m 1).2)) := by
  obtain ⟨L, hL⟩ : ∃ L : Hp, L = l ++ (OwnBox w.heap.size sb now ++ r) := ⟨_, rfl⟩
  have hS := ownBox (sb := sb) (now := now) h.st
  rw [← hL] at hS
  have hin : ∀ w', Step w0 [] w' L → Step w0 [] w' (l ++ (OwnBox w.heap.size sb now ++ r)) := fun w' q => by rw [hL] at q; exact q
  have hG := hid h.gl
  have hX := hid h.is
  have hev := hid h.ev
  have hks := hid (h.args.small k (by simp))
  have hms := hid (h.args.small m (by simp))
  have harg : ∀ p : InW w0 [] L, p.w.cell? ⟨g, off, none⟩ = some (.string k) := fun p => h.args.at_ p.w (l ++ OwnBox w.heap.size sb now) (by rw [List.append_assoc]; exact hin _ p.h) 0 k rfl
  have harg2 : ∀ p : InW w0 [] L, p.w.cell? ⟨g, off + 1, none⟩ = some (.string m) := fun p => h.args.at_ p.w (l ++ OwnBox w.heap.size sb now) (by rw [List.append_assoc]; exact hin _ p.h) 1 m rfl
  have ha0 : ∀ p : InW w0 [] L, p.w.cell? ⟨w.heap.size, 0, none⟩ = some (ptr sb) := fun p => (ownAt (hin _ p.h)).a0
  have ha1 : ∀ p : InW w0 [] L, p.w.cell? ⟨w.heap.size + 1, 0, none⟩ = some (.int .i64 now) := fun p => (ownAt (hin _ p.h)).a1
  have hn : 1 < (k :: m :: ws).length := by simp only [List.length_cons]; omega
  generalize (k :: m :: ws).length = n at hn ⊢
  have hn0 : 0 < n := by omega
  have hn1 : (0 : Int) < (n : Int) := by omega
  have hn2 : (1 : Int) < (n : Int) := by omega
  generalize hb : w.heap.size = B at hS hL ha0 ha1
  replace hb := hid hb
  replace hS := hid hS
  replace hL := hid hL
  clear h hin
  obtain ⟨T, hT⟩ : ∃ T, T = (eExpire S now k m 1) := ⟨_, rfl⟩
  rw [← hT]
  replace hT := hid hT
  replace hnow := hid hnow
  go_enter Tryz.func30, Tryz.ntmps30
  go_wp2_with fail
  rw [hb.out]
  generalize hw1 : ((w.alloc _).alloc _).alloc _ = w1
  replace hS : Step w0 [] w1 _ := hw1 ▸ hS.out
  clear hw1
  refine wp_region_tail 8 hS (by kernel_rfl) (by kernel_rfl) (fun hne => ?_)
  simp only [List.take_succ_cons, List.take_zero, List.drop_succ_cons, List.drop_zero]
  replace hS := hid hS
  repeat (go_big_quiet_step (fail))
  refine tail_nil fun w7 S10 => ?_
  clear harg harg2 ha0 ha1 hne hS
  rw [hL.out] at S10
  have hcall := hid (eexpire_any (r := OwnBox B sb now ++ r) S10 hG.out hX.out (by have := hev.out; omega) k m hks.out hms.out now 1 hnow.out (by decide))
  clear S10
  go_wp2_with fail
  refine hcall.out.mono ?_
  rintro e w8 ⟨rfl, l3, hX3, S11⟩
  clear hcall
  replace hX3 := hid hX3
  replace S11 := ownTop S11
  have S12 := S11
  clear S11
  obtain ⟨a, ha⟩ : ∃ a, a = (eExpire S now k m 1).2 := ⟨_, rfl⟩
  rw [← ha]
  replace ha := hid ha
  obtain ⟨⟨c0, hc0⟩, ⟨c1, hc1⟩, ⟨c2, hc2⟩, ⟨c3, hc3⟩, ⟨c4, hc4⟩, ⟨c5, hc5⟩, fz, hlt⟩ := cells6 S12.own
  have S13 := hid (ownEnd (o := ZeroVal) (S12.setLf a))
  clear S12 hX
  unfold lfVal ansVal
  go_wp2_with fail
  refine bodyPost_ret (v := lfVal a) (by simp [results, Tryz.results30, go_sem, ansVal, lfVal, lfYes, lfInt, lfOk, *] <;> rfl) rfl ?_
  rw [hT.out, ← ha.out]
  exact ⟨rfl, l3, hX3.out, S13.out⟩

set_option maxRecDepth 100000 in
set_option maxHeartbeats 2000000 in
theorem own_PERSIST {w0 w : World} {l r : Hp} {sb : Nat} {S : St} {g off : Nat} {k : ByteArray} {ws : List ByteArray} (h : Ctx w0 w l r sb S g off (k :: ws)) (now : Int) (hnow : 0 ≤ now ∧ now ≤ 4611686018427387904) (cap : Nat) :
    Calls Tryz.prog 30 #[ptr sb, .int .i64 now, .string ⟨#[80, 69, 82, 83, 73, 83, 84]⟩, .slice (some ⟨g, off, none⟩) (k :: ws).length cap] w (StPost w0 r sb (ePersist S now k).1 (lfVal (ePersist S now k).2)) := by
  obtain ⟨L, hL⟩ : ∃ L : Hp, L = l ++ (OwnBox w.heap.size sb now ++ r) := ⟨_, rfl⟩
  have hS := ownBox (sb := sb) (now := now) h.st
  rw [← hL] at hS
  have hin : ∀ w', Step w0 [] w' L → Step w0 [] w' (l ++ (OwnBox w.heap.size sb now ++ r)) := fun w' q => by rw [hL] at q; exact q
  have hG := hid h.gl
  have hX := hid h.is
  have hev := hid h.ev
  have hks := hid (h.args.small k (by simp))
  have harg : ∀ p : InW w0 [] L, p.w.cell? ⟨g, off, none⟩ = some (.string k) := fun p => h.args.at_ p.w (l ++ OwnBox w.heap.size sb now) (by rw [List.append_assoc]; exact hin _ p.h) 0 k rfl
  have ha0 : ∀ p : InW w0 [] L, p.w.cell? ⟨w.heap.size, 0, none⟩ = some (ptr sb) := fun p => (ownAt (hin _ p.h)).a0
  have ha1 : ∀ p : InW w0 [] L, p.w.cell? ⟨w.heap.size + 1, 0, none⟩ = some (.int .i64 now) := fun p => (ownAt (hin _ p.h)).a1
  have hn : 0 < (k :: ws).length := by simp only [List.length_cons]; omega
  generalize (k :: ws).length = n at hn ⊢
  have hn1 : (0 : Int) < (n : Int) := by omega
  generalize hb : w.heap.size = B at hS hL ha0 ha1
  replace hb := hid hb
  replace hS := hid hS
  replace hL := hid hL
  clear h hin
  replace hnow := hid hnow
  go_enter Tryz.func30, Tryz.ntmps30
  go_wp2_with fail
  rw [hb.out]
  generalize hw1 : ((w.alloc _).alloc _).alloc _ = w1
  replace hS : Step w0 [] w1 _ := hw1 ▸ hS.out
  clear hw1
  refine wp_region_tail 5 hS (by kernel_rfl) (by kernel_rfl) (fun hne => ?_)
  simp only [List.take_succ_cons, List.take_zero, List.drop_succ_cons, List.drop_zero]
  replace hS := hid hS
  repeat (go_big_quiet_step (fail))
  refine tail_nil fun w7 S10 => ?_
  clear harg ha0 ha1 hne hS
  rw [hL.out] at S10
  have hcall := hid (persist_any (r := OwnBox B sb now ++ r) S10 hG.out hX.out (by have := hev.out; omega) k hks.out now)
  clear S10
  go_wp2_with fail
  refine hcall.out.mono ?_
  rintro e w8 ⟨rfl, l3, hX3, S11⟩
  clear hcall
  replace hX3 := hid hX3
  obtain ⟨bb, hbb⟩ : ∃ bb, bb = (mlook (S.due k now).D k).isSome := ⟨_, rfl⟩
  rw [← hbb]
  replace hbb := hid hbb
  have hthen := hid (yes_any (ownTop S11) bb)
  clear S11
  go_wp2_with fail
  refine hthen.out.mono ?_
  rintro e w9 ⟨rfl, S12⟩
  obtain ⟨⟨c0, hc0⟩, ⟨c1, hc1⟩, ⟨c2, hc2⟩, ⟨c3, hc3⟩, ⟨c4, hc4⟩, ⟨c5, hc5⟩, fz, hlt⟩ := cells6 S12.own
  have S13 := hid (ownEnd (o := ZeroVal) (S12.setLf (lfYes bb)))
  clear S12 hthen
  unfold lfVal ansVal
  go_wp2_with fail
  refine bodyPost_ret (v := lfVal (lfYes bb)) (by simp [results, Tryz.results30, go_sem, ansVal, lfVal, lfYes, lfInt, lfOk, *] <;> rfl) rfl ?_
  unfold ePersist
  rw [← hbb.out]
  exact ⟨rfl, l3, hX3.out, S13.out⟩

set_option maxRecDepth 100000 in
set_option maxHeartbeats 2000000 in
theorem own_PTTL {w0 w : World} {l r : Hp} {sb : Nat} {S : St} {g off : Nat} {k : ByteArray} {ws : List ByteArray} (h : Ctx w0 w l r sb S g off (k :: ws)) (now : Int) (hnow : 0 ≤ now ∧ now ≤ 4611686018427387904) (cap : Nat) (hr : ∀ t, mlook (S.due k now).D k = some t → -9223372036854775808 ≤ t - now ∧ t - now ≤ 9223372036854775807) :
    Calls Tryz.prog 30 #[ptr sb, .int .i64 now, .string ⟨#[80, 84, 84, 76]⟩, .slice (some ⟨g, off, none⟩) (k :: ws).length cap] w (StPost w0 r sb (ePttl S now k).1 (lfVal (ePttl S now k).2)) := by
  obtain ⟨L, hL⟩ : ∃ L : Hp, L = l ++ (OwnBox w.heap.size sb now ++ r) := ⟨_, rfl⟩
  have hS := ownBox (sb := sb) (now := now) h.st
  rw [← hL] at hS
  have hin : ∀ w', Step w0 [] w' L → Step w0 [] w' (l ++ (OwnBox w.heap.size sb now ++ r)) := fun w' q => by rw [hL] at q; exact q
  have hG := hid h.gl
  have hX := hid h.is
  have hev := hid h.ev
  have hks := hid (h.args.small k (by simp))
  have harg : ∀ p : InW w0 [] L, p.w.cell? ⟨g, off, none⟩ = some (.string k) := fun p => h.args.at_ p.w (l ++ OwnBox w.heap.size sb now) (by rw [List.append_assoc]; exact hin _ p.h) 0 k rfl
  have ha0 : ∀ p : InW w0 [] L, p.w.cell? ⟨w.heap.size, 0, none⟩ = some (ptr sb) := fun p => (ownAt (hin _ p.h)).a0
  have ha1 : ∀ p : InW w0 [] L, p.w.cell? ⟨w.heap.size + 1, 0, none⟩ = some (.int .i64 now) := fun p => (ownAt (hin _ p.h)).a1
  have hn : 0 < (k :: ws).length := by simp only [List.length_cons]; omega
  generalize (k :: ws).length = n at hn ⊢
  have hn1 : (0 : Int) < (n : Int) := by omega
  generalize hb : w.heap.size = B at hS hL ha0 ha1
  replace hb := hid hb
  replace hS := hid hS
  replace hL := hid hL
  clear h hin
  replace hnow := hid hnow
  replace hr := hid hr
  go_enter Tryz.func30, Tryz.ntmps30
  go_wp2_with fail
  rw [hb.out]
  generalize hw1 : ((w.alloc _).alloc _).alloc _ = w1
  replace hS : Step w0 [] w1 _ := hw1 ▸ hS.out
  clear hw1
  refine wp_region_tail 5 hS (by kernel_rfl) (by kernel_rfl) (fun hne => ?_)
  simp only [List.take_succ_cons, List.take_zero, List.drop_succ_cons, List.drop_zero]
  replace hS := hid hS
  repeat (go_big_quiet_step (fail))
  refine tail_nil fun w7 S10 => ?_
  clear harg ha0 ha1 hne hS
  rw [hL.out] at S10
  have hcall := hid (ttl_any (r := OwnBox B sb now ++ r) S10 hG.out hX.out (by have := hev.out; omega) k hks.out now hr.out)
  clear S10
  go_wp2_with fail
  refine hcall.out.mono ?_
  rintro e w8 ⟨rfl, l3, hX3, S11⟩
  clear hcall
  replace hX3 := hid hX3
  obtain ⟨n2, hn2⟩ : ∃ n2, n2 = (S.due k now).ttl k now := ⟨_, rfl⟩
  rw [← hn2]
  replace hn2 := hid hn2
  have hthen := hid (vint_any (ownTop S11) n2)
  clear S11
  go_wp2_with fail
  refine hthen.out.mono ?_
  rintro e w9 ⟨rfl, S12⟩
  obtain ⟨⟨c0, hc0⟩, ⟨c1, hc1⟩, ⟨c2, hc2⟩, ⟨c3, hc3⟩, ⟨c4, hc4⟩, ⟨c5, hc5⟩, fz, hlt⟩ := cells6 S12.own
  have S13 := hid (ownEnd (o := ZeroVal) (S12.setLf (lfInt n2)))
  clear S12 hthen
  unfold lfVal ansVal
  go_wp2_with fail
  refine bodyPost_ret (v := lfVal (lfInt n2)) (by simp [results, Tryz.results30, go_sem, ansVal, lfVal, lfYes, lfInt, lfOk, *] <;> rfl) rfl ?_
  unfold ePttl
  rw [← hn2.out]
  exact ⟨rfl, l3, hX3.out, S13.out⟩

set_option maxRecDepth 100000 in
set_option maxHeartbeats 2000000 in
theorem own_TTL {w0 w : World} {l r : Hp} {sb : Nat} {S : St} {g off : Nat} {k : ByteArray} {ws : List ByteArray} (h : Ctx w0 w l r sb S g off (k :: ws)) (now : Int) (hnow : 0 ≤ now ∧ now ≤ 4611686018427387904) (cap : Nat) (hr : ∀ t, mlook (S.due k now).D k = some t → -9223372036854775808 ≤ t - now ∧ t - now ≤ 9223372036854775807) :
    Calls Tryz.prog 30 #[ptr sb, .int .i64 now, .string ⟨#[84, 84, 76]⟩, .slice (some ⟨g, off, none⟩) (k :: ws).length cap] w (StPost w0 r sb (eTtl S now k).1 (lfVal (eTtl S now k).2)) := by
  have hbd : -9223372036854775808 ≤ (S.due k now).ttl k now ∧ (S.due k now).ttl k now ≤ 9223372036854775807 := by
    unfold St.ttl
    split
    · omega
    · split
      · omega
      · rename_i t ht; exact hr t ht
  obtain ⟨L, hL⟩ : ∃ L : Hp, L = l ++ (OwnBox w.heap.size sb now ++ r) := ⟨_, rfl⟩
  have hS := ownBox (sb := sb) (now := now) h.st
  rw [← hL] at hS
  have hin : ∀ w', Step w0 [] w' L → Step w0 [] w' (l ++ (OwnBox w.heap.size sb now ++ r)) := fun w' q => by rw [hL] at q; exact q
  have hG := hid h.gl
  have hX := hid h.is
  have hev := hid h.ev
  have hks := hid (h.args.small k (by simp))
  have harg : ∀ p : InW w0 [] L, p.w.cell? ⟨g, off, none⟩ = some (.string k) := fun p => h.args.at_ p.w (l ++ OwnBox w.heap.size sb now) (by rw [List.append_assoc]; exact hin _ p.h) 0 k rfl
  have ha0 : ∀ p : InW w0 [] L, p.w.cell? ⟨w.heap.size, 0, none⟩ = some (ptr sb) := fun p => (ownAt (hin _ p.h)).a0
  have ha1 : ∀ p : InW w0 [] L, p.w.cell? ⟨w.heap.size + 1, 0, none⟩ = some (.int .i64 now) := fun p => (ownAt (hin _ p.h)).a1
  have hn : 0 < (k :: ws).length := by simp only [List.length_cons]; omega
  generalize (k :: ws).length = n at hn ⊢
  have hn1 : (0 : Int) < (n : Int) := by omega
  generalize hb : w.heap.size = B at hS hL ha0 ha1
  replace hb := hid hb
  replace hS := hid hS
  replace hL := hid hL
  clear h hin
  replace hnow := hid hnow
  replace hr := hid hr
  obtain ⟨n2, hn2⟩ : ∃ n2, n2 = (S.due k now).ttl k now := ⟨_, rfl⟩
  rw [← hn2] at hbd
  obtain ⟨hb1, hb2⟩ := hbd
  have hres : Hid (eTtl S now k = (S.due k now, lfInt (secs n2))) := hid (by rw [hn2]; rfl)
  replace hn2 := hid hn2
  go_enter Tryz.func30, Tryz.ntmps30
  go_wp2_with fail
  rw [hb.out]
  generalize hw1 : ((w.alloc _).alloc _).alloc _ = w1
  replace hS : Step w0 [] w1 _ := hw1 ▸ hS.out
  clear hw1
  refine wp_region_tail 5 hS (by kernel_rfl) (by kernel_rfl) (fun hne => ?_)
  simp only [List.take_succ_cons, List.take_zero, List.drop_succ_cons, List.drop_zero]
  replace hS := hid hS
  repeat (go_big_quiet_step (fail))
  refine tail_nil fun w7 S10 => ?_
  clear harg ha0 ha1 hne hS
  rw [hL.out] at S10
  have hcall := hid (ttl_any (r := OwnBox B sb now ++ r) S10 hG.out hX.out (by have := hev.out; omega) k hks.out now hr.out)
  clear S10
  go_wp2_with fail
  refine hcall.out.mono ?_
  rintro e w8 ⟨rfl, l3, hX3, S11⟩
  clear hcall
  replace hX3 := hid hX3
  rw [← hn2.out]
  by_cases hz : 0 < n2
  · have hsec : Hid (secs n2 = (n2 - 1) / 1000 + 1) := hid (by unfold secs; rw [if_pos hz])
    have hd : (n2 - 1).tdiv 1000 = (n2 - 1) / 1000 := Int.tdiv_eq_ediv_of_nonneg (by omega)
    have hd0 : 0 ≤ (n2 - 1) / 1000 := by omega
    have hd1 : (n2 - 1) / 1000 ≤ 9223372036854775 := by omega
    have hthen := hid (vint_any (ownTop S11) ((n2 - 1) / 1000 + 1))
    clear S11
    go_wp2_with fail
    refine hthen.out.mono ?_
    rintro e w9 ⟨rfl, S12⟩
    obtain ⟨⟨c0, hc0⟩, ⟨c1, hc1⟩, ⟨c2, hc2⟩, ⟨c3, hc3⟩, ⟨c4, hc4⟩, ⟨c5, hc5⟩, fz, hlt⟩ := cells6 S12.own
    have S13 := hid (ownEnd (o := ZeroVal) (S12.setLf (lfInt ((n2 - 1) / 1000 + 1))))
    clear S12 hthen
    unfold lfVal ansVal
    go_wp2_with fail
    refine bodyPost_ret (v := lfVal (lfInt ((n2 - 1) / 1000 + 1))) (by simp [results, Tryz.results30, go_sem, ansVal, lfVal, lfYes, lfInt, lfOk, *] <;> rfl) rfl ?_
    rw [hres.out, hsec.out]
    exact ⟨rfl, l3, hX3.out, S13.out⟩
  · have hsec : Hid (secs n2 = n2) := hid (by unfold secs; rw [if_neg hz])
    have hthen := hid (vint_any (ownTop S11) n2)
    clear S11
    go_wp2_with fail
    refine hthen.out.mono ?_
    rintro e w9 ⟨rfl, S12⟩
    obtain ⟨⟨c0, hc0⟩, ⟨c1, hc1⟩, ⟨c2, hc2⟩, ⟨c3, hc3⟩, ⟨c4, hc4⟩, ⟨c5, hc5⟩, fz, hlt⟩ := cells6 S12.own
    have S13 := hid (ownEnd (o := ZeroVal) (S12.setLf (lfInt n2)))
    clear S12 hthen
    unfold lfVal ansVal
    go_wp2_with fail
    refine bodyPost_ret (v := lfVal (lfInt n2)) (by simp [results, Tryz.results30, go_sem, ansVal, lfVal, lfYes, lfInt, lfOk, *] <;> rfl) rfl ?_
    rw [hres.out, hsec.out]
    exact ⟨rfl, l3, hX3.out, S13.out⟩

set_option maxRecDepth 100000 in
set_option maxHeartbeats 2000000 in
theorem own_FLUSHALL {w0 w : World} {l r : Hp} {sb : Nat} {S : St} {g off : Nat} {ws : List ByteArray} (h : Ctx w0 w l r sb S g off ws) (now : Int) (hnow : 0 ≤ now ∧ now ≤ 4611686018427387904) (cap : Nat) :
    Calls Tryz.prog 30 #[ptr sb, .int .i64 now, .string ⟨#[70, 76, 85, 83, 72, 65, 76, 76]⟩, .slice (some ⟨g, off, none⟩) ws.length cap] w (StPost w0 r sb (eFlush S).1 (lfVal (eFlush S).2)) := by
  have hS := ownBox (sb := sb) (now := now) h.st
  have hX := hid h.is
  have hev := hid h.ev
  generalize ws.length = n
  generalize hb : w.heap.size = B at hS
  replace hb := hid hb
  replace hS := hid hS
  replace hnow := hid hnow
  clear h
  go_enter Tryz.func30, Tryz.ntmps30
  go_upto_region 2 with fail
  rw [hb.out]
  generalize hw1 : ((w.alloc _).alloc _).alloc _ = w1
  replace hS : Step w0 [] w1 _ := hw1 ▸ hS.out
  clear hw1
  obtain ⟨a0, a1⟩ := ownAt hS
  have hcall := hid (flush_any (r := OwnBox B sb now ++ r) hS hX.out (by have := hev.out; omega))
  clear hS a1
  go_wp2_with fail
  refine hcall.out.mono ?_
  rintro e w8 ⟨rfl, l3, hX3, S11⟩
  clear hcall a0
  replace hX3 := hid hX3
  have hthen := hid (vok_any (ownTop S11))
  clear S11
  go_wp2_with fail
  refine hthen.out.mono ?_
  rintro e w9 ⟨rfl, S12⟩
  obtain ⟨⟨c0, hc0⟩, ⟨c1, hc1⟩, ⟨c2, hc2⟩, ⟨c3, hc3⟩, ⟨c4, hc4⟩, ⟨c5, hc5⟩, fz, hlt⟩ := cells6 S12.own
  have S13 := hid (ownEnd (o := ZeroVal) (S12.setLf lfOk))
  clear S12 hthen
  unfold lfVal ansVal
  go_wp2_with fail
  refine bodyPost_ret (v := lfVal lfOk) (by simp [results, Tryz.results30, go_sem, ansVal, lfVal, lfYes, lfInt, lfOk, *] <;> rfl) rfl ?_
  exact ⟨rfl, l3, hX3.out, S13.out⟩

end Go.Proofs.YthfngplckbggpaaGreatDoor
