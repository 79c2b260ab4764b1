/-
  (*Store).Expire.
  store.New.
  value: Text, Int, Nil, Fail, Ok.
  whole.Neg, texts.text.
-/
import Derived.Test.YthfngplckbggpaaGreatDoorP14
set_option linter.unusedVariables false
set_option linter.unusedSimpArgs false
namespace Go.Proofs.YthfngplckbggpaaGreatDoor
open Go Go.RowKit

abbrev capTime (t : Int) : Int := min t 4611686018427387904
/-- A key gets an end (what was due is gone already). -/
def St.expire (S : St) (key : ByteArray) (when_ now : Int) : St :=
  if (mlook S.L key).isSome then (if when_ ≤ now then S.gone key 2 else { S with D := mput S.D key (capTime when_), ev := S.ev ++ [(1, key)] }) else S

theorem mput_fst {α : Type} {m : AL α} {k x : ByteArray} {v : α} (h : x ∈ (mput m k v).map Prod.fst) : x ∈ m.map Prod.fst ∨ x = k := by
  unfold mput at h
  split at h
  · left
    have e : (mset m k v).map Prod.fst = m.map Prod.fst := by
      unfold mset
      rw [List.map_map]
      refine List.map_congr_left fun p _ => ?_
      simp only [Function.comp]
      split <;> simp_all
    rwa [e] at h
  · simpa using h

theorem Fit.ending {S : St} (h : Fit S) {key : ByteArray} {it : Itm} (hl : mlook S.L key = some it) (t : Int) (ev : List (Int × ByteArray)) : Fit { S with D := mput S.D key t, ev := ev } :=
  ⟨h.nd, fun k hk => by
    rcases mput_fst hk with hk | rfl
    · exact h.ends k hk
    · exact List.mem_map.2 ⟨_, mlook_some hl, rfl⟩, mput_keys h.dnd, h.key, h.bud, h.le⟩

set_option maxRecDepth 100000 in
theorem expire_any {w0 w : World} {l r : Hp} {sb : Nat} {S : St} (hS : Step w0 [] w (l ++ r)) (hG : Glob w0) (hX : IsStore l sb S) (hev : S.ev.length ≤ 2199023255552) (key : ByteArray) (hk : key.size ≤ 1099511627776) (when_ now : Int) (hn0 : 0 ≤ now) (hw : when_ ≤ 9223372036854775807) :
    Calls Tryz.prog 93 #[ptr sb, .string key, .int .i64 when_, .int .i64 now] w (StPost w0 r sb ((S.due key now).expire key when_ now) (.bool (mlook (S.due key now).L key).isSome)) := by
  have hslot := hid (slot_any hS hG hX (by omega) key hk now)
  have hev2 := due_ev S key now
  generalize S.due key now = S' at hslot hev2 ⊢
  have hev3 : S'.ev.length ≤ 4398046511104 := by omega
  clear hS hX hev hev2
  go_enter Tryz.func93, Tryz.ntmps93
  go_wp2_with fail
  refine hslot.out.mono ?_
  rintro e w1 hP
  cases hP with
  | no l' hn he hX1 S1 =>
    subst he
    have hdone : Hid (StPost w0 r sb (S'.expire key when_ now) (.bool (mlook S'.L key).isSome) (.returned (.bool false)) w1) := by
      have e : S'.expire key when_ now = S' := by simp [St.expire, hn]
      rw [e, hn]; exact ⟨rfl, l', hX1, S1⟩
    clear hslot hn hX1 S1 hev3
    go_wp2_with fail
    go_ret
    exact hdone.out
  | yes m c s hok hf hc hck hs hi hl he S1 =>
    subst he
    by_cases hle : when_ ≤ now
    · have e : S'.expire key when_ now = S'.gone key 2 := by simp [St.expire, hl, hle]
      have hgone := hid (gone_any S1 hG ⟨m, rfl, hok, hf⟩ hev3 key hk 2)
      replace e := hid e
      clear S1 hok hf hc hck hs hi hslot hl hev3
      go_wp2_with fail
      refine hgone.out.mono ?_
      intro e1 w2 hP
      obtain ⟨rfl, h2⟩ := hP
      replace h2 := hid h2
      clear hgone
      go_wp2_with fail
      go_ret
      rw [e.out]
      exact ⟨rfl, h2.out⟩
    · have e : S'.expire key when_ now = { S' with D := mput S'.D key (capTime when_), ev := S'.ev ++ [(1, key)] } := by simp [St.expire, hl, hle]
      have c4 := (stCells S1.own).c4
      have hD : S'.D.length < 1099511627776 := by have := hf.fewD; have := hf.few; omega
      have hput := hid (eput_any m.xl m.xb S'.D key (capTime when_) w1 hok.exp hD (by unfold capTime; omega) (SM.ownX S1.own))
      have hst : Hid (∀ w' xl', IsExpiry xl' m.xb (mput S'.D key (capTime when_)) → Step w1 m.xl w' xl' → ∃ l', IsStore l' sb { S' with D := mput S'.D key (capTime when_) } ∧ Step w0 [] w' (l' ++ r)) := fun w' xl' h1 h2 =>
        ⟨_, ⟨{ m with xl := xl' }, rfl, ⟨hok.tab, hok.rcn, h1, hok.slots, hok.free, hok.evs, hok.cells, hok.num, hok.holds, hok.all, hok.each, hok.few⟩, hf.ending hl _ S'.ev⟩, SM.stepX S1 h2⟩
      have hlast : Hid (∀ w' l', IsStore l' sb { S' with D := mput S'.D key (capTime when_), ev := S'.ev ++ [(1, key)] } → Step w0 [] w' (l' ++ r) → StPost w0 r sb (S'.expire key when_ now) (.bool (mlook S'.L key).isSome) (.returned (.bool true)) w') := fun w' l' h1 h2 => by rw [e, hl]; exact ⟨rfl, l', h1, h2⟩
      clear S1 hok hf hc hck hs hi hslot hl hD
      replace e := hid e
      go_wp2_with fail
      refine hput.out.mono ?_
      rintro e1 w2 ⟨rfl, xl', hE, ST⟩
      obtain ⟨l2, hX2, S2⟩ := hst.out w2 xl' hE ST
      have htell := hid (tell_st S2 hX2 hev3 1 key)
      clear hput hst hE ST hX2 S2 hev3
      go_wp2_with fail
      refine htell.out.mono ?_
      rintro e2 w3 ⟨rfl, l3, hX3, S3⟩
      have hdone := hid (hlast.out w3 l3 hX3 S3)
      clear htell hX3 S3 hlast
      go_wp2_with fail
      go_ret
      exact hdone.out

end Go.Proofs.YthfngplckbggpaaGreatDoor

namespace Go.Proofs.YthfngplckbggpaaGreatDoor
open Go Go.RowKit

def newSt (budget : Int) : St := ⟨[], [], [], (max 0 (min budget 1000000000000)).toNat⟩

theorem Step.born {w0 w w' : World} {l r l' : Hp} (h : Step w0 l w r) (k : Step w [] w' l') : Step w0 l w' (l' ++ r) :=
  h.part (a := []) (r := r) (List.Perm.refl _) k

theorem newSt_fit (budget : Int) : Fit (newSt budget) :=
  ⟨List.nodup_nil, fun k hk => by simp [newSt] at hk, List.nodup_nil, fun p hp => by simp [newSt] at hp, by show (max 0 (min budget 1000000000000)).toNat ≤ _; omega, by show (0 : Nat) ≤ _; omega⟩
theorem newSt_tight (budget : Int) : Tight (newSt budget) := Nat.zero_le _

def SNewPost (w0 : World) (r : Hp) (budget : Int) (e : Ending) (w' : World) : Prop :=
  ∃ sb l', e = .returned (ptr sb) ∧ IsStore l' sb (newSt budget) ∧ Step w0 [] w' (l' ++ r)

theorem newSM {w0 w : World} {r tl rl xl : Hp} {tb rb xb : Nat} {budget : Int} (hT : IsTable tl tb [] 0) (hR : IsRecent rl rb []) (hE : IsExpiry xl xb []) (hS : Step w0 [] w (xl ++ (rl ++ (tl ++ r)))) :
    SNewPost w0 r budget (.returned (ptr w.heap.size)) (w.alloc (.cells #[ptr tb, .slice none 0 0, .slice none 0 0, ptr rb, ptr xb, .int .i64 0, .int .i64 (max 0 (min budget 1000000000000)), .slice none 0 0] 59)) := by
  have S1 := hS.alloc (.cells #[ptr tb, .slice none 0 0, .slice none 0 0, ptr rb, ptr xb, .int .i64 0, .int .i64 (max 0 (min budget 1000000000000)), .slice none 0 0] 59)
  let m : SM := ⟨tb, rb, xb, .slice none 0 0, .slice none 0 0, .slice none 0 0, tl, rl, xl, [], [], [], [], [], [], []⟩
  have e : ((max 0 (min budget 1000000000000)).toNat : Int) = max 0 (min budget 1000000000000) := by omega
  refine ⟨w.heap.size, m.hp w.heap.size 0 (newSt budget).bud, rfl, ⟨m, rfl, ⟨hT, hR, hE, .nil, .nil, .nil, rfl, List.Perm.refl _, fun c hc => by simp [m] at hc, List.Perm.refl _, fun s hs => by simp [m] at hs, by show (0 : Nat) ≤ _; omega⟩, newSt_fit budget⟩, S1.permR (perm_by fun f => ?_)⟩
  rw [hp_sums]
  show _ = f (w.heap.size, .cells #[ptr tb, .slice none 0 0, .slice none 0 0, ptr rb, ptr xb, .int .i64 (0 : Nat), .int .i64 ((max 0 (min budget 1000000000000)).toNat : Nat), .slice none 0 0] 59 (0, 0)) + (tl.map f).sum + (rl.map f).sum + (xl.map f).sum + 0 + 0 + 0 + 0 + (r.map f).sum
  rw [e]
  simp only [List.map_append, List.sum_append, List.map_cons, List.sum_cons]
  show f (w.heap.size, .cells #[ptr tb, .slice none 0 0, .slice none 0 0, ptr rb, ptr xb, .int .i64 (0 : Nat), .int .i64 (max 0 (min budget 1000000000000)), .slice none 0 0] 59 (0, 0)) + _ = _
  omega

set_option maxRecDepth 100000 in
theorem snew_any {w0 w : World} {r : Hp} (hS : Step w0 [] w r) (budget : Int) :
    Calls Tryz.prog 9 #[.int .i64 budget] w (SNewPost w0 r budget) := by
  have hnew := hid (tnew_any w)
  replace hS := hid hS
  go_enter Tryz.func9, Tryz.ntmps9
  go_wp2_with fail
  refine hnew.out.mono ?_
  rintro e w1 ⟨tb, tl, rfl, hT, ST⟩
  have S1 := hid (hS.out.born ST)
  replace hT := hid hT
  have hrn := hid (rnew_any w1)
  clear hnew ST hS
  go_wp2_with fail
  refine hrn.out.mono ?_
  rintro e w2 ⟨rb, rl, rfl, hR, SR⟩
  have S2 := hid (S1.out.born SR)
  replace hR := hid hR
  have hen := hid (enew_any w2)
  clear hrn SR S1
  go_wp2_with fail
  refine hen.out.mono ?_
  rintro e w3 ⟨xb, xl, rfl, hE, SE⟩
  have hdone := hid (newSM (budget := budget) hT.out hR.out hE (S2.out.born SE))
  clear hen SE S2 hT hR hE
  go_wp2_with fail
  go_ret
  exact hdone.out

end Go.Proofs.YthfngplckbggpaaGreatDoor

namespace Go.Proofs.YthfngplckbggpaaGreatDoor
open Go Go.RowKit

@[go_sem] theorem run_store_float' (P : Program) (w : World) (a : Addr) (m : Mode) (k : FloatKind) (n) : (store a (.float k n) m).run P w = stored P w a (.float k n) m := run_store P w a _ m rfl

/-- An answer, its list apart. -/
def ansVal (kind : Int) (text : ByteArray) (n : Int) (list : Value) : Value := .agg #[.int .i64 kind, .string text, .int .i64 n, .float .f64 0, .bool false, list]

def AnsPost (w0 : World) (r : Hp) (v : Value) (e : Ending) (w' : World) : Prop := e = .returned v ∧ Step w0 [] w' r

set_option maxRecDepth 100000 in
theorem vtext_any {w0 w : World} {r : Hp} (hS : Step w0 [] w r) (s : ByteArray) :
    Calls Tryz.prog 88 #[.string s] w (AnsPost w0 r (ansVal 4 s 0 (.slice none 0 0))) := by
  have hS' := hid hS
  clear hS
  go_enter Tryz.func88, Tryz.ntmps88
  go_wp2_with fail
  refine bodyPost_ret (v := ansVal 4 s 0 (.slice none 0 0)) (by simp [results, Tryz.results88, go_sem, ansVal, *] <;> rfl) rfl ?_
  exact ⟨rfl, (hS'.out.alloc _).less (List.sublist_cons_self _ _)⟩

set_option maxRecDepth 100000 in
theorem vfail_any {w0 w : World} {r : Hp} (hS : Step w0 [] w r) (s : ByteArray) :
    Calls Tryz.prog 27 #[.string s] w (AnsPost w0 r (ansVal 2 s 0 (.slice none 0 0))) := by
  have hS' := hid hS
  clear hS
  go_enter Tryz.func27, Tryz.ntmps27
  go_wp2_with fail
  refine bodyPost_ret (v := ansVal 2 s 0 (.slice none 0 0)) (by simp [results, Tryz.results27, go_sem, ansVal, *] <;> rfl) rfl ?_
  exact ⟨rfl, (hS'.out.alloc _).less (List.sublist_cons_self _ _)⟩

set_option maxRecDepth 100000 in
theorem vint_any {w0 w : World} {r : Hp} (hS : Step w0 [] w r) (n : Int) :
    Calls Tryz.prog 63 #[.int .i64 n] w (AnsPost w0 r (ansVal 3 ByteArray.empty n (.slice none 0 0))) := by
  have hS' := hid hS
  clear hS
  go_enter Tryz.func63, Tryz.ntmps63
  go_wp2_with fail
  refine bodyPost_ret (v := ansVal 3 ByteArray.empty n (.slice none 0 0)) (by simp [results, Tryz.results63, go_sem, ansVal, *] <;> rfl) rfl ?_
  exact ⟨rfl, (hS'.out.alloc _).less (List.sublist_cons_self _ _)⟩

set_option maxRecDepth 100000 in
theorem vnil_any {w0 w : World} {r : Hp} (hS : Step w0 [] w r) :
    Calls Tryz.prog 86 #[] w (AnsPost w0 r (ansVal 6 ByteArray.empty 0 (.slice none 0 0))) := by
  have hS' := hid hS
  clear hS
  go_enter Tryz.func86, Tryz.ntmps86
  go_wp2_with fail
  refine bodyPost_ret (v := ansVal 6 ByteArray.empty 0 (.slice none 0 0)) (by simp [results, Tryz.results86, go_sem, ansVal, *] <;> rfl) rfl ?_
  exact ⟨rfl, (hS'.out.alloc _).less (List.sublist_cons_self _ _)⟩

set_option maxRecDepth 100000 in
theorem vok_any {w0 w : World} {r : Hp} (hS : Step w0 [] w r) :
    Calls Tryz.prog 67 #[] w (AnsPost w0 r (ansVal 1 ⟨#[79, 75]⟩ 0 (.slice none 0 0))) := by
  have hS' := hid hS
  clear hS
  go_enter Tryz.func67, Tryz.ntmps67
  go_wp2_with fail
  refine bodyPost_ret (v := ansVal 1 ⟨#[79, 75]⟩ 0 (.slice none 0 0)) (by simp [results, Tryz.results67, go_sem, ansVal, *] <;> rfl) rfl ?_
  exact ⟨rfl, (hS'.out.alloc _).less (List.sublist_cons_self _ _)⟩

end Go.Proofs.YthfngplckbggpaaGreatDoor

namespace Go.Proofs.YthfngplckbggpaaGreatDoor
open Go Go.RowKit

def wneg (n : Int) : Int := if n = -9223372036854775808 then 0 else -n
def wnegErr (n : Int) : Int := if n = -9223372036854775808 then 12 else 0

theorem wneg_any (w : World) (n : Int) (h1 : -9223372036854775808 ≤ n) (h2 : n ≤ 9223372036854775807) :
    Calls Tryz.prog 99 #[.int .i64 n] w fun e w' => e = .returned (.tuple #[.int .i64 (wneg n), .int .i64 (wnegErr n)]) ∧ w = w' := by
  by_cases h : n = -9223372036854775808
  · subst h
    go_enter Tryz.func99, Tryz.ntmps99
    go_wp2_with fail
    go_ret2
    exact ⟨rfl, rfl⟩
  · have e1 : Hid (wneg n = -n) := hid (by simp [wneg, h])
    have e2 : Hid (wnegErr n = 0) := hid (by simp [wnegErr, h])
    have h3 : -9223372036854775808 ≤ -n := by omega
    have h4 : -n ≤ 9223372036854775807 := by omega
    have hb : (n == -9223372036854775808) = false := by simpa using h
    go_enter Tryz.func99, Tryz.ntmps99
    go_wp2_with fail
    go_ret2
    rw [e1.out, e2.out]
    exact ⟨rfl, rfl⟩

set_option maxRecDepth 100000 in
theorem ttext_any {w0 w : World} {r : Hp} (hS : Step w0 [] w r) (s : ByteArray) :
    Calls Tryz.prog 92 #[.string s] w (AnsPost w0 r (itemVal 1 s (.slice none 0 0))) := by
  have hS' := hid hS
  clear hS
  go_enter Tryz.func92, Tryz.ntmps92
  go_wp2_with fail
  refine bodyPost_ret (v := itemVal 1 s (.slice none 0 0)) (by simp [results, Tryz.results92, go_sem, itemVal, *] <;> rfl) rfl ?_
  exact ⟨rfl, (hS'.out.alloc _).less (List.sublist_cons_self _ _)⟩

set_option maxRecDepth 100000 in
theorem itext_any {w0 w : World} {r : Hp} (hS : Step w0 [] w r) (s : ByteArray) :
    Calls Tryz.prog 155 #[.string s] w (AnsPost w0 r (itemVal 1 s (.slice none 0 0))) := by
  have hS' := hid hS
  clear hS
  go_enter Tryz.func155, Tryz.ntmps155
  go_wp2_with fail
  refine bodyPost_ret (v := itemVal 1 s (.slice none 0 0)) (by simp [results, Tryz.results155, go_sem, itemVal, *] <;> rfl) rfl ?_
  exact ⟨rfl, (hS'.out.alloc _).less (List.sublist_cons_self _ _)⟩

end Go.Proofs.YthfngplckbggpaaGreatDoor
