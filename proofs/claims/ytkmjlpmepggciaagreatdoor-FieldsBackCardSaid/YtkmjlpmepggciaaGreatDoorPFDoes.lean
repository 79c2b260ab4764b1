/-
  fields.does: the map of commands of hashes.
  fields: a job, and what one field has (job.one, HGET, HLEN, HEXISTS).
  fields: job.keep.
  fields: job.set (HSET) of one field.
  fields: job.drop (HDEL) of one field.
  fields.Do, whatever the command of hashes.
-/
import Derived.Test.YtkmjlpmepggciaaGreatDoorP28
import Derived.Deep.RegionHeld3
import Derived.Deep.DeepCutAuto
import Derived.Deep.CutBlock
set_option linter.unusedVariables false
set_option linter.unusedSimpArgs false
namespace Go.Proofs.YtkmjlpmepggciaaGreatDoor
open Go Go.RowKit

theorem ins_step {w0 w : World} {r : Hp} {mb : Nat} {o : Obj} {m : AL Value} (h : Step w0 [] w ((mb, o) :: r)) (hm : StrMap o m) (hn : (m.map Prod.fst).Nodup) (key : ByteArray) (v : Value) :
    ∃ w' o', (Instr.mapUpdate 98 (.map (some mb)) (.string key) v).run Tryz.prog w = .ok () w' ∧ StrMap o' (mput m key v) ∧ ((mput m key v).map Prod.fst).Nodup ∧ Step w0 [] w' ((mb, o') :: r) := by
  obtain ⟨o', hup, hm'⟩ := run_put (P := Tryz.prog) (t := 98) Tryz.underlying98 Tryz.underlying9 h.own.head hm hn key v
  exact ⟨_, o', hup, hm', mput_keys hn, h.obj rfl⟩

abbrev fv (f : FuncId) : Value := .func (.func f) #[] #[]
def wHSET : ByteArray := ⟨#[72, 83, 69, 84]⟩
def wHINCRBY : ByteArray := ⟨#[72, 73, 78, 67, 82, 66, 89]⟩
def wHMGET : ByteArray := ⟨#[72, 77, 71, 69, 84]⟩
def wHGETALL : ByteArray := ⟨#[72, 71, 69, 84, 65, 76, 76]⟩
def wHDEL : ByteArray := ⟨#[72, 68, 69, 76]⟩
def wHGET : ByteArray := ⟨#[72, 71, 69, 84]⟩
def wHLEN : ByteArray := ⟨#[72, 76, 69, 78]⟩
def wHEXISTS : ByteArray := ⟨#[72, 69, 88, 73, 83, 84, 83]⟩
/-- The commands of hashes, and what does them. -/
def doesMap : AL Value := (mput (mput (mput (mput (mput (mput (mput (mput [] wHSET (fv 93)) wHINCRBY (fv 94)) wHMGET (fv 95)) wHGETALL (fv 96)) wHDEL (fv 97)) wHGET (fv 98)) wHLEN (fv 100)) wHEXISTS (fv 102))
theorem does_HSET : mlook doesMap wHSET = some (fv 93) := by kernel_rfl
theorem does_HINCRBY : mlook doesMap wHINCRBY = some (fv 94) := by kernel_rfl
theorem does_HMGET : mlook doesMap wHMGET = some (fv 95) := by kernel_rfl
theorem does_HGETALL : mlook doesMap wHGETALL = some (fv 96) := by kernel_rfl
theorem does_HDEL : mlook doesMap wHDEL = some (fv 97) := by kernel_rfl
theorem does_HGET : mlook doesMap wHGET = some (fv 98) := by kernel_rfl
theorem does_HLEN : mlook doesMap wHLEN = some (fv 100) := by kernel_rfl
theorem does_HEXISTS : mlook doesMap wHEXISTS = some (fv 102) := by kernel_rfl

set_option maxRecDepth 100000 in
set_option maxHeartbeats 1000000 in
theorem does_any {w0 w : World} {r : Hp} (hS : Step w0 [] w r) :
    Calls Tryz.prog 41 #[] w (fun e w' => ∃ mb o, e = .returned (.map (some mb)) ∧ StrMap o doesMap ∧ Step w0 [] w' ((mb, o) :: r)) := by
  have hmm := @run_makeMap Tryz.prog
  have S0 := hS.alloc (.map #[] 0)
  clear hS
  obtain ⟨w1, o1, u1, m1, n1, S1⟩ := ins_step S0 StrMap.empty (by simp) ⟨#[72, 83, 69, 84]⟩ (fv 93)
  obtain ⟨w2, o2, u2, m2, n2, S2⟩ := ins_step S1 m1 n1 ⟨#[72, 73, 78, 67, 82, 66, 89]⟩ (fv 94)
  obtain ⟨w3, o3, u3, m3, n3, S3⟩ := ins_step S2 m2 n2 ⟨#[72, 77, 71, 69, 84]⟩ (fv 95)
  obtain ⟨w4, o4, u4, m4, n4, S4⟩ := ins_step S3 m3 n3 ⟨#[72, 71, 69, 84, 65, 76, 76]⟩ (fv 96)
  obtain ⟨w5, o5, u5, m5, n5, S5⟩ := ins_step S4 m4 n4 ⟨#[72, 68, 69, 76]⟩ (fv 97)
  obtain ⟨w6, o6, u6, m6, n6, S6⟩ := ins_step S5 m5 n5 ⟨#[72, 71, 69, 84]⟩ (fv 98)
  obtain ⟨w7, o7, u7, m7, n7, S7⟩ := ins_step S6 m6 n6 ⟨#[72, 76, 69, 78]⟩ (fv 100)
  obtain ⟨w8, o8, u8, m8, n8, S8⟩ := ins_step S7 m7 n7 ⟨#[72, 69, 88, 73, 83, 84, 83]⟩ (fv 102)
  have hend : Hid (StrMap o8 doesMap) := hid m8
  replace S8 := hid S8
  clear m1 m2 m3 m4 m5 m6 m7 m8 n1 n2 n3 n4 n5 n6 n7 n8 S0 S1 S2 S3 S4 S5 S6 S7
  unfold fv at u1 u2 u3 u4 u5 u6 u7 u8
  go_enter Tryz.func41, Tryz.ntmps41
  go_wp2_with fail
  go_ret
  exact ⟨_, o8, rfl, hend.out, S8.out⟩

end Go.Proofs.YtkmjlpmepggciaaGreatDoor

namespace Go.Proofs.YtkmjlpmepggciaaGreatDoor
open Go Go.RowKit

abbrev FJobObj (sb : Nat) (kind : Int) (text : ByteArray) (v : Value) (now : Int) (key : ByteArray) (ar : Value) : Obj := .cells #[ptr sb, .int .i64 kind, .string text, v, .int .i64 now, .string key, ar] 102 (0, 0)
def fjobVal (sb : Nat) (kind : Int) (text : ByteArray) (v : Value) (now : Int) (key : ByteArray) (ar : Value) : Value := .agg #[ptr sb, .int .i64 kind, .string text, v, .int .i64 now, .string key, ar]

/-- What a field tells. -/
def oneOf (fs : Fs) (name : ByteArray) : Lf := if has fs name then lfText (fget fs name) else lfNil

set_option maxRecDepth 100000 in
set_option maxHeartbeats 1000000 in
theorem one_any {w0 w : World} {r sl : Hp} {v : Value} {fs : Fs} {kind : Int} {text : ByteArray} (hk : (kind == 1) = false) (hS : Step w0 [] w (sl ++ r)) (hat : IsFields v fs sl) (hr : Rise fs) (hB : fs.length ≤ 1048576) (name : ByteArray)
    (sb : Nat) (now : Int) (key : ByteArray) (ga : Option Addr) (n cap : Nat) :
    Calls Tryz.prog 99 #[fjobVal sb kind text v now key (.slice ga n cap), .string name] w (AnsPost w0 (sl ++ r) (lfVal (oneOf fs name))) := by
  obtain ⟨a, c, rfl⟩ := hat.shape
  have S1 := (hS.alloc (FJobObj sb kind text (.slice a fs.length c) now key (.slice ga n cap))).alloc ZeroVal
  rw [World.size_alloc] at S1
  have S2 := S1.permR (l2 := sl ++ ((w.heap.size + 1, ZeroVal) :: (w.heap.size, FJobObj sb kind text (.slice a fs.length c) now key (.slice ga n cap)) :: r)) (perm_by fun f => by
    simp only [List.map_append, List.sum_append, List.map_cons, List.sum_cons]; omega)
  have hget := get_any (kind := kind) (text := text) hk S2 hat hr hB name
  unfold itemVal at hget
  have hj := S2.own.right.tail.head
  have j1 := cells_get hj 1
  have j2 := cells_get hj 2
  have j3 := cells_get hj 3
  simp only [List.getElem?_toArray, List.getElem?_cons_zero, List.getElem?_cons_succ] at j1 j2 j3
  obtain ⟨nf, hnf⟩ : ∃ nf, nf = fs.length := ⟨_, rfl⟩
  rw [← hnf] at hget j3 ⊢
  have hend : Hid (∀ (w' : World) (b : Lf), Step w0 [] w' (sl ++ ((w.heap.size + 1, ZeroVal) :: (w.heap.size, FJobObj sb kind text (.slice a nf c) now key (.slice ga n cap)) :: r)) → Step w0 [] _ (sl ++ r)) := hid fun w' b h => ((h.permR (l2 := (w.heap.size + 1, ZeroVal) :: (w.heap.size, FJobObj sb kind text (.slice a nf c) now key (.slice ga n cap)) :: (sl ++ r)) (perm_by fun f => by
    simp only [List.map_append, List.sum_append, List.map_cons, List.sum_cons]; omega)).setLf b).less (List.sublist_cons_self _ _)
  have hT : Hid (∀ h : Bool, h = has fs name → oneOf fs name = if h then lfText (fget fs name) else lfNil) := hid fun h e => by rw [e, oneOf]
  obtain ⟨h, heq⟩ : ∃ h, h = has fs name := ⟨_, rfl⟩
  rw [← heq] at hget
  replace heq := hid heq
  generalize fget fs name = tx at hget hT
  replace hget := hid hget
  clear S1 S2 hS hj hnf
  go_enter Tryz.func99, Tryz.ntmps99
  unfold fjobVal
  go_wp2_with fail
  refine hget.out.mono ?_
  rintro e w1 ⟨rfl, S3⟩
  clear hget j1 j2 j3
  cases h with
  | false =>
    have hv := hid (vnil_any S3)
    have e : Hid (oneOf fs name = lfNil) := hid (hT.out false heq.out)
    clear hT S3
    go_wp2_with fail
    refine hv.out.mono ?_
    rintro e1 w2 ⟨rfl, S4⟩
    have S9 := hid (hend.out w2 (lfNil) S4)
    obtain ⟨⟨c0, hc0⟩, ⟨c1, hc1⟩, ⟨c2, hc2⟩, ⟨c3, hc3⟩, ⟨c4, hc4⟩, ⟨c5, hc5⟩, fz, hlt⟩ := cells6' S4.own.right.head
    clear hv S4 hend
    unfold ansVal
    go_wp2_with fail
    refine bodyPost_ret (v := lfVal (lfNil)) (by simp [results, Tryz.results99, go_sem, ansVal, lfVal, lfText, lfNil, *] <;> rfl) rfl ?_
    rw [e.out]
    exact ⟨rfl, S9.out⟩
  | true =>
    have hv := hid (vtext_any S3 tx)
    have e : Hid (oneOf fs name = lfText tx) := hid (hT.out true heq.out)
    clear hT S3
    go_wp2_with fail
    refine hv.out.mono ?_
    rintro e1 w2 ⟨rfl, S4⟩
    have S9 := hid (hend.out w2 (lfText tx) S4)
    obtain ⟨⟨c0, hc0⟩, ⟨c1, hc1⟩, ⟨c2, hc2⟩, ⟨c3, hc3⟩, ⟨c4, hc4⟩, ⟨c5, hc5⟩, fz, hlt⟩ := cells6' S4.own.right.head
    clear hv S4 hend
    unfold ansVal
    go_wp2_with fail
    refine bodyPost_ret (v := lfVal (lfText tx)) (by simp [results, Tryz.results99, go_sem, ansVal, lfVal, lfText, lfNil, *] <;> rfl) rfl ?_
    rw [e.out]
    exact ⟨rfl, S9.out⟩

/-- What a job's own block has, whoever owns it. -/
structure FJobAt (w : World) (b sb : Nat) (kind : Int) (text : ByteArray) (v : Value) (now : Int) (key : ByteArray) (ar : Value) : Prop where
  c0 : w.cell? ⟨b, 0, none⟩ = some (ptr sb)
  c1 : w.cell? ⟨b, 1, none⟩ = some (.int .i64 kind)
  c2 : w.cell? ⟨b, 2, none⟩ = some (.string text)
  c3 : w.cell? ⟨b, 3, none⟩ = some v
  c4 : w.cell? ⟨b, 4, none⟩ = some (.int .i64 now)
  c5 : w.cell? ⟨b, 5, none⟩ = some (.string key)
  c6 : w.cell? ⟨b, 6, none⟩ = some ar
theorem fjobAt {w : World} {b sb : Nat} {kind : Int} {text : ByteArray} {v : Value} {now : Int} {key : ByteArray} {ar : Value} (h : w.heap[b]? = some (FJobObj sb kind text v now key ar)) : FJobAt w b sb kind text v now key ar :=
  ⟨cells_get h 0, cells_get h 1, cells_get h 2, cells_get h 3, cells_get h 4, cells_get h 5, cells_get h 6⟩

set_option maxRecDepth 100000 in
set_option maxHeartbeats 1000000 in
theorem hget_any {w0 w : World} {r sl : Hp} {v : Value} {fs : Fs} {kind : Int} {text : ByteArray} (hk : (kind == 1) = false) (hS : Step w0 [] w (sl ++ r)) (hat : IsFields v fs sl) (hr : Rise fs) (hB : fs.length ≤ 1048576) {name : ByteArray} {ws : List ByteArray}
    (sb : Nat) (now : Int) (key : ByteArray) {g off : Nat} (ha : Args w0 r g off (name :: ws)) (cap : Nat) :
    Calls Tryz.prog 98 #[fjobVal sb kind text v now key (.slice (some ⟨g, off, none⟩) (name :: ws).length cap)] w (AnsPost w0 (sl ++ r) (lfVal (oneOf fs name))) := by
  obtain ⟨a, c, rfl⟩ := hat.shape
  obtain ⟨n, hn⟩ : ∃ n, n = (name :: ws).length := ⟨_, rfl⟩
  have hn0 : 0 < n := by rw [hn]; simp
  have hn1 : (0 : Int) < (n : Int) := by omega
  rw [← hn]
  have S1 := (hS.alloc (FJobObj sb kind text (.slice a fs.length c) now key (.slice (some ⟨g, off, none⟩) n cap))).alloc ZeroVal
  rw [World.size_alloc] at S1
  obtain ⟨b, hb⟩ : ∃ b, b = w.heap.size := ⟨_, rfl⟩
  rw [← hb] at S1
  have S2 := S1.permR (l2 := sl ++ ((b + 1, ZeroVal) :: (b, FJobObj sb kind text (.slice a fs.length c) now key (.slice (some ⟨g, off, none⟩) n cap)) :: r)) (perm_by fun f => by
    simp only [List.map_append, List.sum_append, List.map_cons, List.sum_cons]; omega)
  have hone : ∀ (w' : World) (R : Hp), Hid (Step w0 [] w' (sl ++ R) → _) := fun w' R => hid fun h => one_any (text := text) hk h hat hr hB name sb now key (some ⟨g, off, none⟩) n cap
  obtain ⟨nf, hnf⟩ : ∃ nf, nf = fs.length := ⟨_, rfl⟩
  rw [← hnf] at hone S2 ⊢
  have hj : ∀ p : InW w0 [] (sl ++ ((b + 1, ZeroVal) :: (b, FJobObj sb kind text (.slice a nf c) now key (.slice (some ⟨g, off, none⟩) n cap)) :: r)), FJobAt p.w b sb kind text (.slice a nf c) now key (.slice (some ⟨g, off, none⟩) n cap) := fun p => fjobAt p.h.own.right.tail.head
  have j0 : ∀ p : InW w0 [] (sl ++ ((b + 1, ZeroVal) :: (b, FJobObj sb kind text (.slice a nf c) now key (.slice (some ⟨g, off, none⟩) n cap)) :: r)), p.w.cell? ⟨b, 0, none⟩ = some (ptr sb) := fun p => (hj p).c0
  have j1 : ∀ p : InW w0 [] (sl ++ ((b + 1, ZeroVal) :: (b, FJobObj sb kind text (.slice a nf c) now key (.slice (some ⟨g, off, none⟩) n cap)) :: r)), p.w.cell? ⟨b, 1, none⟩ = some (.int .i64 kind) := fun p => (hj p).c1
  have j2 : ∀ p : InW w0 [] (sl ++ ((b + 1, ZeroVal) :: (b, FJobObj sb kind text (.slice a nf c) now key (.slice (some ⟨g, off, none⟩) n cap)) :: r)), p.w.cell? ⟨b, 2, none⟩ = some (.string text) := fun p => (hj p).c2
  have j3 : ∀ p : InW w0 [] (sl ++ ((b + 1, ZeroVal) :: (b, FJobObj sb kind text (.slice a nf c) now key (.slice (some ⟨g, off, none⟩) n cap)) :: r)), p.w.cell? ⟨b, 3, none⟩ = some (.slice a nf c) := fun p => (hj p).c3
  have j4 : ∀ p : InW w0 [] (sl ++ ((b + 1, ZeroVal) :: (b, FJobObj sb kind text (.slice a nf c) now key (.slice (some ⟨g, off, none⟩) n cap)) :: r)), p.w.cell? ⟨b, 4, none⟩ = some (.int .i64 now) := fun p => (hj p).c4
  have j5 : ∀ p : InW w0 [] (sl ++ ((b + 1, ZeroVal) :: (b, FJobObj sb kind text (.slice a nf c) now key (.slice (some ⟨g, off, none⟩) n cap)) :: r)), p.w.cell? ⟨b, 5, none⟩ = some (.string key) := fun p => (hj p).c5
  have j6 : ∀ p : InW w0 [] (sl ++ ((b + 1, ZeroVal) :: (b, FJobObj sb kind text (.slice a nf c) now key (.slice (some ⟨g, off, none⟩) n cap)) :: r)), p.w.cell? ⟨b, 6, none⟩ = some (.slice (some ⟨g, off, none⟩) n cap) := fun p => (hj p).c6
  have ja : ∀ p : InW w0 [] (sl ++ ((b + 1, ZeroVal) :: (b, FJobObj sb kind text (.slice a nf c) now key (.slice (some ⟨g, off, none⟩) n cap)) :: r)), p.w.cell? ⟨g, off, none⟩ = some (.string name) := fun p => ha.at_ p.w (sl ++ [(b + 1, ZeroVal), (b, FJobObj sb kind text (.slice a nf c) now key (.slice (some ⟨g, off, none⟩) n cap))]) (by have := p.h; rw [List.append_assoc]; exact this) 0 name rfl
  have hend : Hid (∀ (w' : World) (b' : Lf), Step w0 [] w' (sl ++ ((b + 1, ZeroVal) :: (b, FJobObj sb kind text (.slice a nf c) now key (.slice (some ⟨g, off, none⟩) n cap)) :: r)) → Step w0 [] _ (sl ++ r)) := hid fun w' b' h => ((h.permR (l2 := (b + 1, ZeroVal) :: (b, FJobObj sb kind text (.slice a nf c) now key (.slice (some ⟨g, off, none⟩) n cap)) :: (sl ++ r)) (perm_by fun f => by
    simp only [List.map_append, List.sum_append, List.map_cons, List.sum_cons]; omega)).setLf b').less (List.sublist_cons_self _ _)
  obtain ⟨an, han⟩ : ∃ an, an = oneOf fs name := ⟨_, rfl⟩
  rw [← han] at hone ⊢
  unfold fjobVal lfVal ansVal at hone
  replace S2 := hid S2
  replace han := hid han
  replace hnf := hid hnf
  replace hn := hid hn
  clear S1 hS hj hat
  go_enter Tryz.func98, Tryz.ntmps98
  unfold fjobVal
  go_wp2_with fail
  rw [← hb]
  clear hb
  refine wp_region_tail 5 S2.out (by kernel_rfl) (by kernel_rfl) (fun hne => ?_)
  simp only [List.take_succ_cons, List.take_zero, List.drop_succ_cons, List.drop_zero]
  repeat (go_big_quiet_step (fail))
  refine tail_nil fun w5 S7 => ?_
  clear j0 j1 j2 j3 j4 j5 j6 ja hne S2
  have hc := hid ((hone w5 _).out S7)
  clear S7 hone
  go_wp2_with fail
  refine hc.out.mono ?_
  rintro e w6 ⟨rfl, S8⟩
  have S9 := hid (hend.out w6 an S8)
  obtain ⟨⟨c0, hc0⟩, ⟨c1, hc1⟩, ⟨c2, hc2⟩, ⟨c3, hc3⟩, ⟨c4, hc4⟩, ⟨c5, hc5⟩, fz, hlt⟩ := cells6' S8.own.right.head
  clear hc S8 hend
  go_wp2_with fail
  refine bodyPost_ret (v := lfVal an) (by simp [results, Tryz.results98, go_sem, ansVal, lfVal, *] <;> rfl) rfl ?_
  exact ⟨rfl, S9.out⟩

set_option maxRecDepth 100000 in
set_option maxHeartbeats 1000000 in
theorem hexists_any {w0 w : World} {r sl : Hp} {v : Value} {fs : Fs} {kind : Int} {text : ByteArray} (hk : (kind == 1) = false) (hS : Step w0 [] w (sl ++ r)) (hat : IsFields v fs sl) (hr : Rise fs) (hB : fs.length ≤ 1048576) {name : ByteArray} {ws : List ByteArray}
    (sb : Nat) (now : Int) (key : ByteArray) {g off : Nat} (ha : Args w0 r g off (name :: ws)) (cap : Nat) :
    Calls Tryz.prog 102 #[fjobVal sb kind text v now key (.slice (some ⟨g, off, none⟩) (name :: ws).length cap)] w (AnsPost w0 (sl ++ r) (lfVal (lfInt (if has fs name then 1 else 0)))) := by
  obtain ⟨a, c, rfl⟩ := hat.shape
  obtain ⟨n, hn⟩ : ∃ n, n = (name :: ws).length := ⟨_, rfl⟩
  have hn0 : 0 < n := by rw [hn]; simp
  have hn1 : (0 : Int) < (n : Int) := by omega
  rw [← hn]
  have S1 := (hS.alloc (FJobObj sb kind text (.slice a fs.length c) now key (.slice (some ⟨g, off, none⟩) n cap))).alloc ZeroVal
  rw [World.size_alloc] at S1
  obtain ⟨b, hb⟩ : ∃ b, b = w.heap.size := ⟨_, rfl⟩
  rw [← hb] at S1
  have S2 := S1.permR (l2 := sl ++ ((b + 1, ZeroVal) :: (b, FJobObj sb kind text (.slice a fs.length c) now key (.slice (some ⟨g, off, none⟩) n cap)) :: r)) (perm_by fun f => by
    simp only [List.map_append, List.sum_append, List.map_cons, List.sum_cons]; omega)
  have hone : ∀ (w' : World) (R : Hp), Hid (Step w0 [] w' (sl ++ R) → _) := fun w' R => hid fun h => one_any (text := text) hk h hat hr hB name sb now key (some ⟨g, off, none⟩) n cap
  obtain ⟨nf, hnf⟩ : ∃ nf, nf = fs.length := ⟨_, rfl⟩
  rw [← hnf] at hone S2 ⊢
  have hj : ∀ p : InW w0 [] (sl ++ ((b + 1, ZeroVal) :: (b, FJobObj sb kind text (.slice a nf c) now key (.slice (some ⟨g, off, none⟩) n cap)) :: r)), FJobAt p.w b sb kind text (.slice a nf c) now key (.slice (some ⟨g, off, none⟩) n cap) := fun p => fjobAt p.h.own.right.tail.head
  have j0 : ∀ p : InW w0 [] (sl ++ ((b + 1, ZeroVal) :: (b, FJobObj sb kind text (.slice a nf c) now key (.slice (some ⟨g, off, none⟩) n cap)) :: r)), p.w.cell? ⟨b, 0, none⟩ = some (ptr sb) := fun p => (hj p).c0
  have j1 : ∀ p : InW w0 [] (sl ++ ((b + 1, ZeroVal) :: (b, FJobObj sb kind text (.slice a nf c) now key (.slice (some ⟨g, off, none⟩) n cap)) :: r)), p.w.cell? ⟨b, 1, none⟩ = some (.int .i64 kind) := fun p => (hj p).c1
  have j2 : ∀ p : InW w0 [] (sl ++ ((b + 1, ZeroVal) :: (b, FJobObj sb kind text (.slice a nf c) now key (.slice (some ⟨g, off, none⟩) n cap)) :: r)), p.w.cell? ⟨b, 2, none⟩ = some (.string text) := fun p => (hj p).c2
  have j3 : ∀ p : InW w0 [] (sl ++ ((b + 1, ZeroVal) :: (b, FJobObj sb kind text (.slice a nf c) now key (.slice (some ⟨g, off, none⟩) n cap)) :: r)), p.w.cell? ⟨b, 3, none⟩ = some (.slice a nf c) := fun p => (hj p).c3
  have j4 : ∀ p : InW w0 [] (sl ++ ((b + 1, ZeroVal) :: (b, FJobObj sb kind text (.slice a nf c) now key (.slice (some ⟨g, off, none⟩) n cap)) :: r)), p.w.cell? ⟨b, 4, none⟩ = some (.int .i64 now) := fun p => (hj p).c4
  have j5 : ∀ p : InW w0 [] (sl ++ ((b + 1, ZeroVal) :: (b, FJobObj sb kind text (.slice a nf c) now key (.slice (some ⟨g, off, none⟩) n cap)) :: r)), p.w.cell? ⟨b, 5, none⟩ = some (.string key) := fun p => (hj p).c5
  have j6 : ∀ p : InW w0 [] (sl ++ ((b + 1, ZeroVal) :: (b, FJobObj sb kind text (.slice a nf c) now key (.slice (some ⟨g, off, none⟩) n cap)) :: r)), p.w.cell? ⟨b, 6, none⟩ = some (.slice (some ⟨g, off, none⟩) n cap) := fun p => (hj p).c6
  have ja : ∀ p : InW w0 [] (sl ++ ((b + 1, ZeroVal) :: (b, FJobObj sb kind text (.slice a nf c) now key (.slice (some ⟨g, off, none⟩) n cap)) :: r)), p.w.cell? ⟨g, off, none⟩ = some (.string name) := fun p => ha.at_ p.w (sl ++ [(b + 1, ZeroVal), (b, FJobObj sb kind text (.slice a nf c) now key (.slice (some ⟨g, off, none⟩) n cap))]) (by have := p.h; rw [List.append_assoc]; exact this) 0 name rfl
  have hend : Hid (∀ (w' : World) (b' : Lf), Step w0 [] w' (sl ++ ((b + 1, ZeroVal) :: (b, FJobObj sb kind text (.slice a nf c) now key (.slice (some ⟨g, off, none⟩) n cap)) :: r)) → Step w0 [] _ (sl ++ r)) := hid fun w' b' h => ((h.permR (l2 := (b + 1, ZeroVal) :: (b, FJobObj sb kind text (.slice a nf c) now key (.slice (some ⟨g, off, none⟩) n cap)) :: (sl ++ r)) (perm_by fun f => by
    simp only [List.map_append, List.sum_append, List.map_cons, List.sum_cons]; omega)).setLf b').less (List.sublist_cons_self _ _)
  cases hh : has fs name with
  | false =>
    have han : oneOf fs name = lfNil := by rw [oneOf, hh]; rfl
    rw [han] at hone
    replace han := hid han
    replace hh := hid hh
    unfold fjobVal lfVal ansVal at hone
    simp only [lfText, lfNil] at hone
    replace S2 := hid S2
    replace hnf := hid hnf
    replace hn := hid hn
    clear S1 hS hj hat
    go_enter Tryz.func102, Tryz.ntmps102
    unfold fjobVal
    go_wp2_with fail
    rw [← hb]
    clear hb
    refine wp_region_tail 5 S2.out (by kernel_rfl) (by kernel_rfl) (fun hne => ?_)
    simp only [List.take_succ_cons, List.take_zero, List.drop_succ_cons, List.drop_zero]
    repeat (go_big_quiet_step (fail))
    refine tail_nil fun w5 S7 => ?_
    clear j0 j1 j2 j3 j4 j5 j6 ja hne S2
    have hc := hid ((hone w5 _).out S7)
    clear S7 hone
    go_wp2_with fail
    refine hc.out.mono ?_
    rintro e w6 ⟨rfl, S8⟩
    have hv := hid (vint_any S8 0)
    have hfd : (Instr.field 29 (.agg #[.int .i64 6, .string ByteArray.empty, .int .i64 0, .float .f64 0, .bool false, .slice none 0 0]) 0).run Tryz.prog w6 = .ok (.int .i64 6) w6 := by kernel_rfl
    clear hc S8
    go_wp2_with fail
    refine hv.out.mono ?_
    rintro e w7 ⟨rfl, S8⟩
    have S9 := hid (hend.out w7 (lfInt 0) S8)
    obtain ⟨⟨c0, hc0⟩, ⟨c1, hc1⟩, ⟨c2, hc2⟩, ⟨c3, hc3⟩, ⟨c4, hc4⟩, ⟨c5, hc5⟩, fz, hlt⟩ := cells6' S8.own.right.head
    clear hv S8 hend
    unfold ansVal
    go_wp2_with fail
    refine bodyPost_ret (v := lfVal (lfInt 0)) (by simp [results, Tryz.results102, go_sem, ansVal, lfVal, lfInt, *] <;> rfl) rfl ?_
    exact ⟨rfl, S9.out⟩
  | true =>
    have han : oneOf fs name = lfText (fget fs name) := by rw [oneOf, hh]; rfl
    rw [han] at hone
    replace han := hid han
    replace hh := hid hh
    unfold fjobVal lfVal ansVal at hone
    simp only [lfText, lfNil] at hone
    replace S2 := hid S2
    replace hnf := hid hnf
    replace hn := hid hn
    clear S1 hS hj hat
    go_enter Tryz.func102, Tryz.ntmps102
    unfold fjobVal
    go_wp2_with fail
    rw [← hb]
    clear hb
    refine wp_region_tail 5 S2.out (by kernel_rfl) (by kernel_rfl) (fun hne => ?_)
    simp only [List.take_succ_cons, List.take_zero, List.drop_succ_cons, List.drop_zero]
    repeat (go_big_quiet_step (fail))
    refine tail_nil fun w5 S7 => ?_
    clear j0 j1 j2 j3 j4 j5 j6 ja hne S2
    have hc := hid ((hone w5 _).out S7)
    clear S7 hone
    go_wp2_with fail
    refine hc.out.mono ?_
    rintro e w6 ⟨rfl, S8⟩
    have hv := hid (vint_any S8 1)
    have hfd : (Instr.field 29 (.agg #[.int .i64 4, .string (fget fs name), .int .i64 0, .float .f64 0, .bool false, .slice none 0 0]) 0).run Tryz.prog w6 = .ok (.int .i64 4) w6 := by kernel_rfl
    clear hc S8
    go_wp2_with fail
    refine hv.out.mono ?_
    rintro e w7 ⟨rfl, S8⟩
    have S9 := hid (hend.out w7 (lfInt 1) S8)
    obtain ⟨⟨c0, hc0⟩, ⟨c1, hc1⟩, ⟨c2, hc2⟩, ⟨c3, hc3⟩, ⟨c4, hc4⟩, ⟨c5, hc5⟩, fz, hlt⟩ := cells6' S8.own.right.head
    clear hv S8 hend
    unfold ansVal
    go_wp2_with fail
    refine bodyPost_ret (v := lfVal (lfInt 1)) (by simp [results, Tryz.results102, go_sem, ansVal, lfVal, lfInt, *] <;> rfl) rfl ?_
    exact ⟨rfl, S9.out⟩

set_option maxRecDepth 100000 in
set_option maxHeartbeats 1000000 in
theorem hlen_any {w0 w : World} {r : Hp} (hS : Step w0 [] w r) (kind : Int) (text : ByteArray) (a : Option Addr) (nf c : Nat) (sb : Nat) (now : Int) (key : ByteArray) (ga : Option Addr) (n cap : Nat) :
    Calls Tryz.prog 100 #[fjobVal sb kind text (.slice a nf c) now key (.slice ga n cap)] w (AnsPost w0 r (lfVal (lfInt nf))) := by
  have S1 := (hS.alloc (FJobObj sb kind text (.slice a nf c) now key (.slice ga n cap))).alloc ZeroVal
  rw [World.size_alloc] at S1
  have hv := vint_any S1 (nf : Int)
  have j3 := (fjobAt S1.own.tail.head).c3
  replace hv := hid hv
  clear hS S1
  go_enter Tryz.func100, Tryz.ntmps100
  unfold fjobVal
  go_wp2_with fail
  refine hv.out.mono ?_
  rintro e w1 ⟨rfl, S2⟩
  obtain ⟨⟨c0, hc0⟩, ⟨c1, hc1⟩, ⟨c2, hc2⟩, ⟨c3, hc3⟩, ⟨c4, hc4⟩, ⟨c5, hc5⟩, fz, hlt⟩ := cells6' S2.own.head
  have S9 := hid ((S2.setLf (lfInt nf)).less (List.sublist_cons_self _ _))
  clear hv S2 j3
  unfold ansVal
  go_wp2_with fail
  refine bodyPost_ret (v := lfVal (lfInt nf)) (by simp [results, Tryz.results100, go_sem, ansVal, lfVal, lfInt, *] <;> rfl) rfl ?_
  exact ⟨rfl, S9.out⟩

end Go.Proofs.YtkmjlpmepggciaaGreatDoor

namespace Go.Proofs.YtkmjlpmepggciaaGreatDoor
open Go Go.RowKit

def hitm (fs : Fs) : Itm := ⟨2, ByteArray.empty, fs⟩
/-- The key has the fields, and ends when it did; then a number. -/
def fKeep (S : St) (now : Int) (key : ByteArray) (it : Itm) (n : Int) : St × Lf :=
  (S.putG key it true now, if S.putE key it = 0 then lfInt n else lfErr (S.putE key it))

set_option maxRecDepth 100000 in
set_option maxHeartbeats 1000000 in
theorem fkeep_any {w0 w : World} {l r il : Hp} {sb : Nat} {S : St} {v v' : Value} {it : Itm} {kind' : Int} {text' : ByteArray} (hS : Step w0 [] w (l ++ (il ++ r))) (hG : Glob w0) (hX : IsStore l sb S) (hT : Tight S) (hl : S.load ≤ 1000000000000) (key : ByteArray) (hk : key.size ≤ 1099511627776)
    (hp : Putable it v il) (hv : ∃ a m c, v = .slice a m c) (now n : Int) (ar : Value) :
    Calls Tryz.prog 154 #[fjobVal sb kind' text' v' now key ar, itemVal it.kind it.text v, .int .i64 n] w (StPost w0 (il ++ r) sb (fKeep S now key it n).1 (lfVal (fKeep S now key it n).2)) := by
  obtain ⟨va, vm, vc, rfl⟩ := hv
  have S1 := ((hS.alloc (FJobObj sb kind' text' v' now key ar)).alloc (ItemObj it.kind it.text (.slice va vm vc))).alloc ZeroVal
  simp only [World.size_alloc] at S1
  obtain ⟨b, hb⟩ : ∃ b, b = w.heap.size := ⟨_, rfl⟩
  rw [← hb] at S1
  obtain ⟨R, hR⟩ : ∃ R : Hp, R = (b + 1 + 1, ZeroVal) :: (b + 1, ItemObj it.kind it.text (.slice va vm vc)) :: (b, FJobObj sb kind' text' v' now key ar) :: r := ⟨_, rfl⟩
  have S2 : Step w0 [] _ (l ++ (il ++ R)) := S1.permR (perm_by fun f => by
    rw [hR]; simp only [List.map_append, List.sum_append, List.map_cons, List.sum_cons]; omega)
  have hput := sput_gen S2 hG hX hT (by have := hl; unfold St.load at this; omega) key hk hp true now
  have hknown := putE_known S key it
  have hTT : Hid (fKeep S now key it n = (S.putG key it true now, if S.putE key it = 0 then lfInt n else lfErr (S.putE key it))) := hid rfl
  have hjm : (b, FJobObj sb kind' text' v' now key ar) ∈ R := by rw [hR]; simp
  have him : (b + 1, ItemObj it.kind it.text (.slice va vm vc)) ∈ R := by rw [hR]; simp
  have hzm : (b + 1 + 1, ZeroVal) ∈ R := by rw [hR]; simp
  obtain ⟨j0, j1, j2, j3, j4, j5, j6⟩ := fjobAt (S2.own.right.right.at_ _ hjm)
  have hio := S2.own.right.right.at_ _ him
  have i0 := cells_get hio 0
  have i1 := cells_get hio 1
  have i2 := cells_get hio 2
  simp only [List.getElem?_toArray, List.getElem?_cons_zero, List.getElem?_cons_succ] at i0 i1 i2
  have hend : Hid (∀ (w' : World) (l3 : Hp) (a : Lf), Step w0 [] w' (l3 ++ (il ++ R)) → Step w0 [] _ (l3 ++ (il ++ r))) := hid fun w' l3 a h => ((h.permR (l2 := (b + 1 + 1, ZeroVal) :: (l3 ++ (il ++ r) ++ [(b + 1, ItemObj it.kind it.text (.slice va vm vc)), (b, FJobObj sb kind' text' v' now key ar)])) (perm_by fun f => by
    rw [hR]; simp only [List.map_append, List.sum_append, List.map_cons, List.sum_cons, List.map_nil, List.sum_nil]; omega)).setLf a).less (List.sublist_append_left _ _)
  generalize fKeep S now key it n = T at hTT ⊢
  generalize S.putG key it true now = S2' at hput hTT
  generalize S.putE key it = pe at hput hTT hknown
  unfold itemVal at hput
  replace hput := hid hput
  clear S1 S2 hS hR hio hX hT hl hp
  subst hb
  go_enter Tryz.func154, Tryz.ntmps154
  unfold fjobVal itemVal
  go_wp2_with fail
  refine hput.out.mono ?_
  rintro e w2 ⟨rfl, l3, hX3, S3⟩
  clear j0 j1 j2 j3 j4 j5 j6 i0 i1 i2 hjm him
  rcases hknown with rfl | ⟨hne, hkn⟩
  · have hv := hid (vint_any S3 n)
    have S9' : ∀ w', Hid _ := fun w' => hid (hend.out w' l3 (lfInt n))
    clear hput hend S3
    go_wp2_with fail
    refine hv.out.mono ?_
    rintro e w3 ⟨rfl, S4⟩
    obtain ⟨⟨c0, hc0⟩, ⟨c1, hc1⟩, ⟨c2, hc2⟩, ⟨c3, hc3⟩, ⟨c4, hc4⟩, ⟨c5, hc5⟩, fz, hlt⟩ := cells6' (S4.own.right.right.at_ _ hzm)
    have S9 := hid ((S9' w3).out S4)
    clear hv S4 S9' hzm
    unfold ansVal
    go_wp2_with fail
    refine bodyPost_ret (v := lfVal (lfInt n)) (by simp [results, Tryz.results154, go_sem, ansVal, lfVal, lfInt, *] <;> rfl) rfl ?_
    rw [hTT.out, if_pos trivial]
    exact ⟨rfl, l3, hX3, S9.out⟩
  · have hne2 : (pe == 0) = false := by simpa using hne
    generalize hte : errText pe = te
    have herr : AnsPost w0 (l3 ++ (il ++ R)) (ansVal 2 (errText pe) 0 (.slice none 0 0)) = AnsPost w0 (l3 ++ (il ++ R)) (ansVal 2 te 0 (.slice none 0 0)) := by rw [hte]
    have hce := ffail_any S3 pe hkn
    rw [herr] at hce
    have heq : Hid (lfErr pe = ⟨2, te, 0⟩) := hid (by rw [lfErr, hte])
    replace hTT : Hid (T = (S2', ⟨2, te, 0⟩)) := hid (by rw [hTT.out, if_neg hne, heq.out])
    clear hte herr heq
    have hv := hid (hce)
    have S9' : ∀ w', Hid _ := fun w' => hid (hend.out w' l3 (⟨2, te, 0⟩))
    clear hput hend S3
    go_wp2_with fail
    refine hv.out.mono ?_
    rintro e w3 ⟨rfl, S4⟩
    obtain ⟨⟨c0, hc0⟩, ⟨c1, hc1⟩, ⟨c2, hc2⟩, ⟨c3, hc3⟩, ⟨c4, hc4⟩, ⟨c5, hc5⟩, fz, hlt⟩ := cells6' (S4.own.right.right.at_ _ hzm)
    have S9 := hid ((S9' w3).out S4)
    clear hv S4 S9' hzm
    unfold ansVal
    go_wp2_with fail
    refine bodyPost_ret (v := lfVal (⟨2, te, 0⟩)) (by simp [results, Tryz.results154, go_sem, ansVal, lfVal, lfInt, *] <;> rfl) rfl ?_
    rw [hTT.out]
    exact ⟨rfl, l3, hX3, S9.out⟩

end Go.Proofs.YtkmjlpmepggciaaGreatDoor

namespace Go.Proofs.YtkmjlpmepggciaaGreatDoor
open Go Go.RowKit

/-- HSET of one field, what the key had known. -/
def fSet (S : St) (now : Int) (key : ByteArray) (fs : Fs) (name s : ByteArray) : St × Lf := fKeep S now key (hitm (fput fs name s)) (if has fs name then 0 else 1)

theorem InX.get {w0 w : World} {R : Hp} (h : Hid (InX w0 R w)) {p : Nat × Obj} (hp : p ∈ R) : w.heap[p.1]? = some p.2 := by
  obtain ⟨x, hx⟩ := h.out
  exact hx.own.right.at_ p hp

/-- A job has another item. -/
theorem Step.setJobItem {w0 w : World} {l r : Hp} {b sb : Nat} {kind : Int} {text : ByteArray} {v : Value} {now : Int} {key : ByteArray} {ar : Value} (h : Step w0 l w ((b, FJobObj sb kind text v now key ar) :: r)) (k2 : Int) (t2 : ByteArray) (v2 : Value) :
    Step w0 l (((w.setCell ⟨b, 1, none⟩ (.int .i64 k2)).setCell ⟨b, 2, none⟩ (.string t2)).setCell ⟨b, 3, none⟩ v2) ((b, FJobObj sb k2 t2 v2 now key ar) :: r) := by
  have k := ((h.set 1 (.int .i64 k2)).set 2 (.string t2)).set 3 v2
  exact k

/-- item.Put, with what is owned beside. -/
def FPutEnd (w0 : World) (R l x : Hp) (fs' : Fs) (fr : Bool) (e : Ending) (w2 : World) : Prop :=
  ∃ va vn vc sl2, e = .returned (.tuple #[.agg #[.int .i64 2, .string ByteArray.empty, .slice va vn vc], .bool fr, .int .i64 0]) ∧ Hid (IsFields (.slice va vn vc) fs' sl2) ∧ Hid (Step w0 [] w2 (x ++ (l ++ (sl2 ++ R)))) ∧ Hid (InX w0 R w2)
theorem FPutEnd.of {w0 : World} {R l x sl : Hp} {fs : Fs} {name s : ByteArray} {e : Ending} {w2 : World} (h : PutItPost w0 [] (x ++ (l ++ R)) sl fs name s e w2) : FPutEnd w0 R l x (fput fs name s) (!has fs name) e w2 := by
  obtain ⟨v, sl2, rfl, h1, h2⟩ := h
  obtain ⟨va, vc, rfl⟩ := h1.shape
  have h3 := h2.pick (l2 := x ++ (l ++ (sl2 ++ R))) (m := sl) (perm_by fun f => by simp only [List.map_append, List.sum_append]; omega)
  exact ⟨va, _, vc, sl2, rfl, hid h1, hid h3, hid ⟨x ++ (l ++ sl2), by rw [List.append_assoc, List.append_assoc]; exact h3⟩⟩

set_option maxRecDepth 100000 in
set_option maxHeartbeats 2000000 in
theorem fset_one {w0 w : World} {l r sl : Hp} {sb : Nat} {S : St} {v : Value} {fs : Fs} {kind : Int} {text : ByteArray} (hk : (kind == 1) = false) (hS : Step w0 [] w (l ++ (sl ++ r))) (hG : Glob w0) (hX : IsStore l sb S) (hT : Tight S) (hl : S.load ≤ 1000000000000)
    (hat : IsFields v fs sl) (hr : Rise fs) (hB : fs.length ≤ 256) (name s : ByteArray) (h1 : name.size ≤ 512) (h2 : s.size ≤ 4096) (hh : has fs name = true ∨ fs.length < 256) (hR : rightB (hitm (fput fs name s))) (key : ByteArray) (hks : key.size ≤ 1099511627776) (now : Int) {g off : Nat} (ha : Args w0 r g off [name, s]) (cap n2 : Nat) (hn2 : n2 = 2) :
    Calls Tryz.prog 93 #[fjobVal sb kind text v now key (.slice (some ⟨g, off, none⟩) n2 cap)] w (StPost w0 r sb (fSet S now key fs name s).1 (lfVal (fSet S now key fs name s).2)) := by
  have m1 : 1 < n2 := by omega
  have m2 : (1 : Int) < (n2 : Int) := by omega
  have m3 : 0 < n2 := by omega
  have m4 : ¬ (3 : Int) < (n2 : Int) := by omega
  have m5 : (0 : Int) < (n2 : Int) := by omega
  have z01 : (0 : Int) + 1 = 1 := rfl
  have z02 : IntKind.i64.wrap (0 + 1) = 1 := by decide
  have z03 : IntKind.i64.wrap 1 = 1 := by decide
  clear hn2
  obtain ⟨va, vc, rfl⟩ := hat.shape
  obtain ⟨nf, hnf⟩ : ∃ nf, nf = fs.length := ⟨_, rfl⟩
  rw [← hnf] at hat ⊢
  replace hnf := hid hnf
  have S1 := (hS.alloc (FJobObj sb kind text (.slice va nf vc) now key (.slice (some ⟨g, off, none⟩) n2 cap))).alloc ZeroVal
  simp only [World.size_alloc] at S1
  obtain ⟨fresh, hfresh⟩ : ∃ fresh : Int, fresh = if has fs name then 0 else 1 := ⟨_, rfl⟩
  obtain ⟨T, hTT⟩ : ∃ T, T = fSet S now key fs name s := ⟨_, rfl⟩
  rw [← hTT]
  have hkp : Hid (T = fKeep S now key (hitm (fput fs name s)) fresh) := hid (by rw [hTT, fSet, hfresh])
  replace S1 := hid S1
  clear hS hTT
  have hfr2 : Hid (fresh = if has fs name then 0 else 1) := hid hfresh
  clear hfresh
  go_enter Tryz.func93, Tryz.ntmps93
  unfold fjobVal
  go_wp2_with fail
  generalize hw1 : (w.alloc _).alloc _ = w1
  replace S1 : Step w0 [] w1 _ := hw1 ▸ S1.out
  clear hw1
  generalize w.heap.size = b at S1 ⊢
  have S2 : Hid (Step w0 [] w1 (l ++ (sl ++ ((b, FJobObj sb kind text (.slice va nf vc) now key (.slice (some ⟨g, off, none⟩) n2 cap)) :: ((b + 1, ZeroVal) :: r))))) := hid (S1.permR (perm_by fun f => by
    simp only [List.map_append, List.sum_append, List.map_cons, List.sum_cons]; omega))
  clear S1
  have hat0 := hid hat
  go_loopw [3, 4, 5, 6, 7] (fun s3 s4 s5 s6 s7 wr => ∃ (k n kd : Int) (tx : ByteArray) (vv : Value) (fs' : Fs) (sl' : Hp), s4 = .int .i64 k ∧ s3 = .int .i64 n ∧ Hid ((0 = k ∧ 0 = n ∧ kind = kd ∧ text = tx ∧ .slice va nf vc = vv ∧ fs = fs' ∧ sl = sl') ∨ (2 = k ∧ fresh = n ∧ 2 = kd ∧ ByteArray.empty = tx ∧ fput fs name s = fs')) ∧ Hid (IsFields vv fs' sl') ∧ Hid (Step w0 [] wr (l ++ (sl' ++ ((b, FJobObj sb kd tx vv now key (.slice (some ⟨g, off, none⟩) n2 cap)) :: ((b + 1, ZeroVal) :: r)))))) (fun s3 s4 s5 s6 s7 wr => (2 - intOf s4).toNat)
  case atStart => exact ⟨0, 0, kind, text, _, fs, sl, rfl, rfl, hid (.inl ⟨rfl, rfl, rfl, rfl, rfl, rfl, rfl⟩), hat0, S2⟩
  case round =>
    obtain ⟨k, n, kd, tx, vv, fs', sl', rfl, rfl, hcase, hat', S3⟩ := hrel
    clear S2
    rcases hcase.out with ⟨rfl, rfl, rfl, rfl, rfl, rfl, rfl⟩ | ⟨rfl, rfl, rfl, rfl, rfl⟩
    · clear hcase hat'
      obtain ⟨R, hRR⟩ : ∃ R : Hp, R = (b, FJobObj sb kind text (.slice va nf vc) now key (.slice (some ⟨g, off, none⟩) n2 cap)) :: ((b + 1, ZeroVal) :: r) := ⟨_, rfl⟩
      rw [← hRR] at S3
      have hjm : (b, FJobObj sb kind text (.slice va nf vc) now key (.slice (some ⟨g, off, none⟩) n2 cap)) ∈ R := by rw [hRR]; simp
      obtain ⟨c0, c1, c2, c3, c4, c5, c6⟩ := fjobAt (S3.out.own.right.right.at_ _ hjm)
      go_upto_region 5 with fail
      clear c0 c1 c2 c3 c4 c5 c6
      have hput : ∀ (w' : World) (x : Hp), Hid (Step w0 [] w' (x ++ (sl ++ (l ++ R))) → Calls Tryz.prog 153 #[itemVal kind text (.slice va nf vc), .string name, .string s] w' (FPutEnd w0 R l x (fput fs name s) (!has fs name))) := fun w' x => hid fun hw => (itput_any (l := []) (r := x ++ (l ++ R)) hk (hw.permR (perm_by fun f => by simp only [List.map_append, List.sum_append]; omega)) hat0.out hr hB name s h1 h2 hh).mono fun _ _ hp => .of hp
      obtain ⟨hs, hhs⟩ : ∃ hs, hs = !has fs name := ⟨_, rfl⟩
      rw [← hhs] at hput
      replace hhs := hid hhs
      unfold itemVal at hput
      have S4 : Step w0 [] wr (sl ++ (l ++ R)) := S3.out.permR (perm_by fun f => by simp only [List.map_append, List.sum_append]; omega)
      have hs1 : Hid (Step w0 [] wr.drew ([] ++ (sl ++ (l ++ R)))) := hid S4.drew
      have hs2 : Hid (∀ o : Obj, Step w0 [] (wr.alloc o).drew ([(wr.heap.size, o)] ++ (sl ++ (l ++ R)))) := hid fun o => (S4.alloc o).drew
      have hx1 : Hid (InX w0 R wr.drew) := hid ⟨sl ++ l, by rw [List.append_assoc]; exact S4.drew⟩
      have hx0 : Hid (InX w0 R wr) := hid ⟨sl ++ l, by rw [List.append_assoc]; exact S4⟩
      have har : Hid (∀ w', InX w0 R w' → w'.cell? ⟨g, off, none⟩ = some (.string name) ∧ w'.cell? ⟨g, off + 1, none⟩ = some (.string s)) := hid fun w' ⟨x, hx⟩ => by
        have hx2 : Step w0 [] w' ((x ++ [(b, FJobObj sb kind text (.slice va nf vc) now key (.slice (some ⟨g, off, none⟩) n2 cap)), (b + 1, ZeroVal)]) ++ r) := by rw [List.append_assoc]; rw [hRR] at hx; exact hx
        exact ⟨ha.at_ w' _ hx2 0 name rfl, ha.at_ w' _ hx2 1 s rfl⟩
      have hkeep : Hid (∀ w', Hid (InX w0 R w') → w'.cell? ⟨b, 1, none⟩ = some (.int .i64 kind) ∧ w'.cell? ⟨b, 2, none⟩ = some (.string text) ∧ w'.cell? ⟨b, 3, none⟩ = some (.slice va nf vc) ∧ w'.cell? ⟨b, 6, none⟩ = some (.slice (some ⟨g, off, none⟩) n2 cap) ∧ w'.cell? ⟨g, off, none⟩ = some (.string name) ∧ w'.cell? ⟨g, off + 1, none⟩ = some (.string s) ∧ Hid (InX w0 R w')) := hid fun w' hx => by
        obtain ⟨_, d1, d2, d3, _, _, d6⟩ := fjobAt (InX.get hx hjm)
        exact ⟨d1, d2, d3, d6, (har.out w' hx.out).1, (har.out w' hx.out).2, hx⟩
      clear S3 S4 har hjm ha hat hr hB hh hk
      go_cut [5, 6, 7] (fun s5 s6 s7 wc => ∃ nb va2 vn vc2 sl2, s5 = .pointer (some ⟨nb, 0, none⟩) ∧ s6 = .bool hs ∧ s7 = .int .i64 0 ∧ Hid (IsFields (.slice va2 vn vc2) (fput fs name s) sl2) ∧ Hid (Step w0 [] wc ((nb, ItemObj 2 ByteArray.empty (.slice va2 vn vc2)) :: (l ++ (sl2 ++ R)))))
      case first =>
        go_region_held3 (fun w' => w'.cell? ⟨b, 1, none⟩ = some (.int .i64 kind) ∧ w'.cell? ⟨b, 2, none⟩ = some (.string text) ∧ w'.cell? ⟨b, 3, none⟩ = some (.slice va nf vc) ∧ w'.cell? ⟨b, 6, none⟩ = some (.slice (some ⟨g, off, none⟩) n2 cap) ∧ w'.cell? ⟨g, off, none⟩ = some (.string name) ∧ w'.cell? ⟨g, off + 1, none⟩ = some (.string s) ∧ Hid (InX w0 R w'))
          (first | (with_reducible exact hkeep.out _ hx1) | (with_reducible exact hkeep.out _ (hset.out _ _ _)) | (with_reducible exact hkeep.out _ (by assumption)) | (with_reducible exact hkeep.out _ (InX.alloc (by assumption) _)) | (with_reducible exact hkeep.out _ (InX.drew (InX.alloc (by assumption) _))) | (fail "keep"))
          (first | (go_at_call 153; refine ((hput _ _).out hs1.out).mono ?_; rintro e w2 ⟨va2, vn, vc2, sl2, rfl, hat2, S5, hx2⟩) | (go_at_call 153; refine ((hput _ _).out (hs2.out _)).mono ?_; rintro e w2 ⟨va2, vn, vc2, sl2, rfl, hat2, S5, hx2⟩; obtain ⟨z0, z1, z2, zf⟩ := cells3 S5.out.own.head; have zl := block_lt S5.out.own.head; have hset : Hid (∀ v0 v1 v2, _) := hid fun v0 v1 v2 => InX.set3 (A := l ++ sl2) (by rw [List.append_assoc]; exact S5.out) v0 v1 v2))
        all_goals (
          go_wp2_with fail
          go_meet
          first | exact ⟨_, va2, vn, vc2, sl2, rfl, rfl, rfl, hat2, hid (S5.out.alloc _)⟩ | exact ⟨_, va2, vn, vc2, sl2, rfl, rfl, rfl, hat2, hid (((S5.out.set 0 _).set 1 _).set 2 _)⟩)
      case rest =>
        obtain ⟨nb, va2, vn, vc2, sl2, rfl, rfl, rfl, hat2, S5⟩ := hcut
        clear hput hs1 hs2 hx1 hx0 hkeep
        rw [hRR] at S5
        have S6 := S5.out.permR (l2 := (b, FJobObj sb kind text (.slice va nf vc) now key (.slice (some ⟨g, off, none⟩) n2 cap)) :: ((nb, ItemObj 2 ByteArray.empty (.slice va2 vn vc2)) :: (l ++ (sl2 ++ ((b + 1, ZeroVal) :: r))))) (perm_by fun f => by
          simp only [List.map_append, List.sum_append, List.map_cons, List.sum_cons]; omega)
        have hio := S6.own.tail.head
        have i0 := cells_get hio 0
        have i1 := cells_get hio 1
        have i2 := cells_get hio 2
        simp only [List.getElem?_toArray, List.getElem?_cons_zero, List.getElem?_cons_succ] at i0 i1 i2
        obtain ⟨_, d1, d2, d3, _, _, _⟩ := fjobAt S6.own.head
        have fz : ∀ j, wc.frozen? ⟨b, j, none⟩ = false := fun j => cells_free S6.own.head j
        have hlt := block_lt S6.own.head
        have S7 := hid ((S6.setJobItem 2 ByteArray.empty (.slice va2 vn vc2)).pick (l2 := l ++ (sl2 ++ ((b, FJobObj sb 2 ByteArray.empty (.slice va2 vn vc2) now key (.slice (some ⟨g, off, none⟩) n2 cap)) :: ((b + 1, ZeroVal) :: r)))) (m := [(nb, ItemObj 2 ByteArray.empty (.slice va2 vn vc2))]) (perm_by fun f => by
          simp only [List.map_append, List.sum_append, List.map_cons, List.sum_cons, List.map_nil, List.sum_nil]; omega))
        clear hio S5 S6
        have hf3 : Hid (fresh = if hs then 1 else 0) := hid (by rw [hfr2.out, hhs.out]; cases has fs name <;> rfl)
        cases hs with
        | true =>
          have hf4 : Hid (fresh = 1) := hid hf3.out
          go_wp2_with fail
          go_roundw
          case rel => exact ⟨2, 1, 2, ByteArray.empty, .slice va2 vn vc2, fput fs name s, sl2, rfl, rfl, hid (.inr ⟨rfl, hf4.out, rfl, rfl, rfl⟩), hat2, S7⟩
          case measure => simp [intOf]
        | false =>
          have hf4 : Hid (fresh = 0) := hid hf3.out
          go_wp2_with fail
          go_roundw
          case rel => exact ⟨2, 0, 2, ByteArray.empty, .slice va2 vn vc2, fput fs name s, sl2, rfl, rfl, hid (.inr ⟨rfl, hf4.out, rfl, rfl, rfl⟩), hat2, S7⟩
          case measure => simp [intOf]
    · clear hcase
      obtain ⟨va2, vc2, rfl⟩ := hat'.out.shape
      obtain ⟨vn2, hvn2⟩ : ∃ m, m = (fput fs name s).length := ⟨_, rfl⟩
      rw [← hvn2] at hat' S3
      clear hvn2
      have hkc := fkeep_any (il := sl') (kind' := 2) (text' := ByteArray.empty) (v' := .slice va2 vn2 vc2) (it := hitm (fput fs name s)) S3.out hG hX hT hl key hks (.inl ⟨hR, hat'.out⟩) ⟨va2, vn2, vc2, rfl⟩ now fresh (.slice (some ⟨g, off, none⟩) n2 cap)
      rw [← hkp.out] at hkc
      unfold fjobVal itemVal at hkc
      obtain ⟨c0, c1, c2, c3, c4, c5, c6⟩ := fjobAt (S3.out.own.right.right.head)
      have hend : Hid (∀ (w' : World) (l3 : Hp) (a : Lf), Step w0 [] w' (l3 ++ (sl' ++ ((b, FJobObj sb 2 ByteArray.empty (.slice va2 vn2 vc2) now key (.slice (some ⟨g, off, none⟩) n2 cap)) :: ((b + 1, ZeroVal) :: r)))) → Step w0 [] _ (l3 ++ r)) := hid fun w' l3 a h => ((h.permR (l2 := (b + 1, ZeroVal) :: (l3 ++ r ++ (sl' ++ [(b, FJobObj sb 2 ByteArray.empty (.slice va2 vn2 vc2) now key (.slice (some ⟨g, off, none⟩) n2 cap))]))) (perm_by fun f => by
        simp only [List.map_append, List.sum_append, List.map_cons, List.sum_cons, List.map_nil, List.sum_nil]; omega)).setLf a).less (List.sublist_append_left _ _)
      have hkc2 : Hid (Calls Tryz.prog 154 #[.agg #[ptr sb, .int .i64 2, .string ByteArray.empty, .slice va2 vn2 vc2, .int .i64 now, .string key, (.slice (some ⟨g, off, none⟩) n2 cap)], .agg #[.int .i64 2, .string ByteArray.empty, .slice va2 vn2 vc2], .int .i64 fresh] wr (StPost w0 (sl' ++ ((b, FJobObj sb 2 ByteArray.empty (.slice va2 vn2 vc2) now key (.slice (some ⟨g, off, none⟩) n2 cap)) :: ((b + 1, ZeroVal) :: r))) sb T.1 (lfVal T.2))) := hid hkc
      clear hkc S3 hkp hfr2
      go_wp2_with fail
      refine hkc2.out.mono ?_
      rintro e w3 ⟨rfl, l3, hX3, S4⟩
      have S9 := hid (hend.out w3 l3 T.2 S4)
      obtain ⟨⟨z0, hz0⟩, ⟨z1, hz1⟩, ⟨z2, hz2⟩, ⟨z3, hz3⟩, ⟨z4, hz4⟩, ⟨z5, hz5⟩, fz, hlt⟩ := cells6' (S4.own.right.right.tail.head)
      clear hkc2 S4 hend c0 c1 c2 c3 c4 c5 c6
      unfold lfVal ansVal
      go_wp2_with fail
      refine bodyPost_ret (v := lfVal T.2) (by simp [results, Tryz.results93, go_sem, ansVal, lfVal, *] <;> rfl) rfl ?_
      exact ⟨rfl, l3, hX3, S9.out⟩

end Go.Proofs.YtkmjlpmepggciaaGreatDoor

namespace Go.Proofs.YtkmjlpmepggciaaGreatDoor
open Go Go.RowKit

/-- What is left of an item behind a Drop. -/
def dropItm (kind : Int) (text : ByteArray) (fs : Fs) (name : ByteArray) : Itm := if has fs name then (if fs.length = 1 then zeroItm else ⟨kind, text, fdel fs name⟩) else ⟨kind, text, fs⟩
theorem dropItm_len (kind : Int) (text : ByteArray) (fs : Fs) (name : ByteArray) : (dropItm kind text fs name).fs.length = fs.length - if has fs name then 1 else 0 := by
  unfold dropItm
  split
  · rename_i h
    split
    · rename_i h1; rw [h1]; rfl
    · rw [show (Itm.mk kind text (fdel fs name)).fs = fdel fs name from rfl, len_fdel, h]; rfl
  · rfl
theorem has_len {fs : Fs} {name : ByteArray} (h : has fs name = true) : 0 < fs.length := by
  cases fs with
  | nil => simp [has] at h
  | cons f fs => simp
/-- HDEL of one field, what the key had known. -/
def fDrop (S : St) (now : Int) (key : ByteArray) (fs : Fs) (name : ByteArray) : St × Lf :=
  if has fs name then (if fs.length = 1 then ((S.due key now).gone key 2, lfInt 1) else fKeep S now key (hitm (fdel fs name)) 1) else (S, lfInt 0)

theorem itdrop_all {w0 w : World} {l r sl : Hp} {v : Value} {fs : Fs} {kind : Int} {text : ByteArray} (hk : (kind == 1) = false) (hS : Step w0 l w (sl ++ r)) (hat : IsFields v fs sl) (hr : Rise fs) (hB : fs.length ≤ 1048576) (name : ByteArray) :
    Calls Tryz.prog 156 #[itemVal kind text v, .string name] w (DropItPost w0 l r sl fs name (dropItm kind text fs name).kind (dropItm kind text fs name).text (has fs name) (dropItm kind text fs name).fs) := by
  unfold dropItm
  cases hh : has fs name with
  | false => exact itdrop_no hk hS hat hr hB name hh
  | true =>
    by_cases h1 : fs.length = 1
    · simp only [if_true, h1]
      exact itdrop_one hk hS hat hr hB name hh h1
    · simp only [if_true, h1, if_false]
      exact itdrop_more hk hS hat hr hB name hh (by have := has_len hh; omega)

set_option maxRecDepth 100000 in
set_option maxHeartbeats 2000000 in
theorem fdrop_one {w0 w : World} {l r sl : Hp} {sb : Nat} {S : St} {v : Value} {fs : Fs} {kind : Int} {text : ByteArray} (hk : (kind == 1) = false) (hS : Step w0 [] w (l ++ (sl ++ r))) (hG : Glob w0) (hX : IsStore l sb S) (hT : Tight S) (hl : S.load ≤ 1000000000000)
    (hat : IsFields v fs sl) (hr : Rise fs) (hB : fs.length ≤ 256) (name : ByteArray) (hkt : has fs name = true → kind = 2 ∧ text = ByteArray.empty ∧ ∀ f ∈ fs, f.1.size ≤ 512 ∧ f.2.size ≤ 4096) (key : ByteArray) (hks : key.size ≤ 1099511627776) (now : Int) {g off : Nat} (ha : Args w0 r g off [name]) (cap n1 : Nat) (hn1 : n1 = 1) :
    Calls Tryz.prog 97 #[fjobVal sb kind text v now key (.slice (some ⟨g, off, none⟩) n1 cap)] w (StPost w0 r sb (fDrop S now key fs name).1 (lfVal (fDrop S now key fs name).2)) := by
  have m1 : 0 < n1 := by omega
  have m2 : (0 : Int) < (n1 : Int) := by omega
  have m3 : ¬ (1 : Int) < (n1 : Int) := by omega
  clear hn1
  obtain ⟨va, vc, rfl⟩ := hat.shape
  obtain ⟨nf, hnf⟩ : ∃ nf, nf = fs.length := ⟨_, rfl⟩
  rw [← hnf] at hat ⊢
  replace hnf := hid hnf
  have S1 := (hS.alloc (FJobObj sb kind text (.slice va nf vc) now key (.slice (some ⟨g, off, none⟩) n1 cap))).alloc ZeroVal
  simp only [World.size_alloc] at S1
  obtain ⟨T, hTT⟩ : ∃ T, T = fDrop S now key fs name := ⟨_, rfl⟩
  rw [← hTT]
  obtain ⟨hs, hhs⟩ : ∃ hs, hs = has fs name := ⟨_, rfl⟩
  obtain ⟨cnt, hcnt⟩ : ∃ cnt : Int, cnt = if hs then 1 else 0 := ⟨_, rfl⟩
  obtain ⟨di, hdi⟩ : ∃ di, di = dropItm kind text fs name := ⟨_, rfl⟩
  have hdrop : ∀ (w' : World) (R : Hp), Hid (Step w0 [] w' (sl ++ R) → _) := fun w' R => hid fun hw => itdrop_all (text := text) hk hw hat hr (by omega) name
  rw [← hdi, ← hhs] at hdrop
  unfold itemVal at hdrop
  replace hTT := hid hTT
  replace hhs := hid hhs
  replace hcnt := hid hcnt
  replace hdi := hid hdi
  replace S1 := hid S1
  clear hS
  have hat0 := hid hat
  go_enter Tryz.func97, Tryz.ntmps97
  unfold fjobVal
  go_upto_region 1 with fail
  generalize hw1 : (w.alloc _).alloc _ = w1
  replace S1 : Step w0 [] w1 _ := hw1 ▸ S1.out
  clear hw1
  generalize w.heap.size = b at S1 ⊢
  have S2 : Hid (Step w0 [] w1 (l ++ (sl ++ ((b, FJobObj sb kind text (.slice va nf vc) now key (.slice (some ⟨g, off, none⟩) n1 cap)) :: ((b + 1, ZeroVal) :: r))))) := hid (S1.permR (perm_by fun f => by
    simp only [List.map_append, List.sum_append, List.map_cons, List.sum_cons]; omega))
  clear S1
  have c6 := (fjobAt S2.out.own.right.right.head).c6
  go_wp2_with fail
  clear c6
  go_loopw [3, 5, 6, 7, 8, 12] (fun s3 s5 s6 s7 s8 s12 wr => ∃ (k n kd : Int) (tx : ByteArray) (vv : Value) (fs' : Fs) (sl' : Hp), s12 = .int .i64 k ∧ s3 = .int .i64 n ∧ Hid ((0 = k ∧ 0 = n ∧ kind = kd ∧ text = tx ∧ .slice va nf vc = vv ∧ fs = fs' ∧ sl = sl') ∨ (1 = k ∧ cnt = n ∧ di.kind = kd ∧ di.text = tx ∧ di.fs = fs')) ∧ Hid (IsFields vv fs' sl') ∧ Hid (Step w0 [] wr (l ++ (sl' ++ ((b, FJobObj sb kd tx vv now key (.slice (some ⟨g, off, none⟩) n1 cap)) :: ((b + 1, ZeroVal) :: r)))))) (fun s3 s5 s6 s7 s8 s12 wr => (1 - intOf s12).toNat)
  case atStart => exact ⟨0, 0, kind, text, _, fs, sl, rfl, rfl, hid (.inl ⟨rfl, rfl, rfl, rfl, rfl, rfl, rfl⟩), hat0, S2⟩
  case round =>
    obtain ⟨k, n, kd, tx, vv, fs', sl', rfl, rfl, hcase, hat', S3⟩ := hrel
    clear S2
    rcases hcase.out with ⟨rfl, rfl, rfl, rfl, rfl, rfl, rfl⟩ | ⟨rfl, rfl, rfl, rfl, rfl⟩
    · clear hcase hat'
      obtain ⟨_, c1, c2, c3, _, _, c6⟩ := fjobAt S3.out.own.right.right.head
      have ca : wr.cell? ⟨g, off, none⟩ = some (.string name) := ha.at_ wr (l ++ (sl ++ [(b, FJobObj sb kind text (.slice va nf vc) now key (.slice (some ⟨g, off, none⟩) n1 cap)), (b + 1, ZeroVal)])) (by have := S3.out; simpa using this) 0 name rfl
      have hd := hid ((hdrop wr (l ++ ((b, FJobObj sb kind text (.slice va nf vc) now key (.slice (some ⟨g, off, none⟩) n1 cap)) :: ((b + 1, ZeroVal) :: r)))).out (S3.out.permR (perm_by fun f => by
        simp only [List.map_append, List.sum_append, List.map_cons, List.sum_cons]; omega)))
      clear S3 hdrop
      go_wp2_with fail
      refine hd.out.mono ?_
      rintro e w2 ⟨v2, sl2, rfl, hat2, S4⟩
      obtain ⟨va2, vc2, rfl⟩ := hat2.shape
      obtain ⟨vn2, hvn2⟩ : ∃ m, m = di.fs.length := ⟨_, rfl⟩
      rw [← hvn2] at hat2 ⊢
      clear hvn2 c1 c2 c3 c6 ca hd
      unfold itemVal
      go_upto_region 6 with fail
      have S5 := S4.alloc (ItemObj di.kind di.text (.slice va2 vn2 vc2))
      generalize hw : w2.alloc _ = w3
      replace S5 : Step w0 [] w3 _ := hw ▸ S5
      clear hw S4
      generalize w2.heap.size = nb at S5 ⊢
      have S6 := S5.permR (l2 := (b, FJobObj sb kind text (.slice va nf vc) now key (.slice (some ⟨g, off, none⟩) n1 cap)) :: ((nb, ItemObj di.kind di.text (.slice va2 vn2 vc2)) :: (l ++ (sl2 ++ (sl ++ ((b + 1, ZeroVal) :: r)))))) (perm_by fun f => by
        simp only [List.map_append, List.sum_append, List.map_cons, List.sum_cons]; omega)
      have hio := S6.own.tail.head
      have i0 := cells_get hio 0
      have i1 := cells_get hio 1
      have i2 := cells_get hio 2
      simp only [List.getElem?_toArray, List.getElem?_cons_zero, List.getElem?_cons_succ] at i0 i1 i2
      obtain ⟨_, d1, d2, d3, _, _, _⟩ := fjobAt S6.own.head
      have fz : ∀ j, w3.frozen? ⟨b, j, none⟩ = false := fun j => cells_free S6.own.head j
      have hlt := block_lt S6.own.head
      have S7 := hid ((S6.setJobItem di.kind di.text (.slice va2 vn2 vc2)).pick (l2 := l ++ (sl2 ++ ((b, FJobObj sb di.kind di.text (.slice va2 vn2 vc2) now key (.slice (some ⟨g, off, none⟩) n1 cap)) :: ((b + 1, ZeroVal) :: r)))) (m := (nb, ItemObj di.kind di.text (.slice va2 vn2 vc2)) :: sl) (perm_by fun f => by
        simp only [List.map_append, List.sum_append, List.map_cons, List.sum_cons]; omega))
      replace hat2 := hid hat2
      clear hio S5 S6
      cases hs with
      | true =>
        have hf4 : Hid (cnt = 1) := hid hcnt.out
        go_wp2_with fail
        go_roundw
        case rel => exact ⟨1, 1, di.kind, di.text, .slice va2 vn2 vc2, di.fs, sl2, rfl, rfl, hid (.inr ⟨rfl, hf4.out, rfl, rfl, rfl⟩), hat2, S7⟩
        case measure => simp [intOf]
      | false =>
        have hf4 : Hid (cnt = 0) := hid hcnt.out
        go_wp2_with fail
        go_roundw
        case rel => exact ⟨1, 0, di.kind, di.text, .slice va2 vn2 vc2, di.fs, sl2, rfl, rfl, hid (.inr ⟨rfl, hf4.out, rfl, rfl, rfl⟩), hat2, S7⟩
        case measure => simp [intOf]
    · clear hcase hdrop
      obtain ⟨va2, vc2, rfl⟩ := hat'.out.shape
      obtain ⟨vn2, hvn2⟩ : ∃ m, m = di.fs.length := ⟨_, rfl⟩
      rw [← hvn2] at hat' S3
      have hlen : Hid (vn2 = fs.length - if has fs name then 1 else 0) := hid (by rw [hvn2, hdi.out, dropItm_len])
      clear hvn2
      have hend : Hid (∀ (w' : World) (l3 : Hp) (a : Lf), Step w0 [] w' (l3 ++ (sl' ++ ((b, FJobObj sb di.kind di.text (.slice va2 vn2 vc2) now key (.slice (some ⟨g, off, none⟩) n1 cap)) :: ((b + 1, ZeroVal) :: r)))) → Step w0 [] _ (l3 ++ r)) := hid fun w' l3 a h => ((h.permR (l2 := (b + 1, ZeroVal) :: (l3 ++ r ++ (sl' ++ [(b, FJobObj sb di.kind di.text (.slice va2 vn2 vc2) now key (.slice (some ⟨g, off, none⟩) n1 cap))]))) (perm_by fun f => by
        simp only [List.map_append, List.sum_append, List.map_cons, List.sum_cons, List.map_nil, List.sum_nil]; omega)).setLf a).less (List.sublist_append_left _ _)
      obtain ⟨c0, c1, c2, c3, c4, c5, c6⟩ := fjobAt (S3.out.own.right.right.head)
      cases hs with
      | false =>
        obtain rfl : cnt = 0 := hcnt.out
        have hT2 : Hid (T = (S, lfInt 0)) := hid (by rw [hTT.out, fDrop, ← hhs.out]; rfl)
        have hv := hid (vint_any S3.out 0)
        clear S3 hcnt
        go_wp2_with fail
        refine hv.out.mono ?_
        rintro e w5 ⟨rfl, S5⟩
        obtain ⟨⟨z0, hz0⟩, ⟨z1, hz1⟩, ⟨z2, hz2⟩, ⟨z3, hz3⟩, ⟨z4, hz4⟩, ⟨z5, hz5⟩, fz, hlt⟩ := cells6' (S5.own.right.right.tail.head)
        have S9 := hid (hend.out w5 _ (lfInt 0) S5)
        clear hv S5 hend c0 c1 c2 c3 c4 c5 c6
        unfold ansVal
        go_wp2_with fail
        refine bodyPost_ret (v := lfVal (lfInt 0)) (by simp [results, Tryz.results97, go_sem, ansVal, lfVal, lfInt, *] <;> rfl) rfl ?_
        rw [hT2.out]
        exact ⟨rfl, _, hX, S9.out⟩
      | true =>
        obtain rfl : cnt = 1 := hcnt.out
        have hln := hlen.out
        rw [← hhs.out] at hln
        simp only [if_true] at hln
        by_cases h1 : fs.length = 1
        · have hT2 : Hid (T = ((S.due key now).gone key 2, lfInt 1)) := hid (by rw [hTT.out, fDrop, ← hhs.out, if_pos rfl, if_pos h1])
          obtain rfl : vn2 = 0 := by omega
          have hd := hid (sdrop_any S3.out hG hX (by have := hl; unfold St.load at this; omega) key hks now)
          clear S3 hcnt hln
          go_wp2_with fail
          refine hd.out.mono ?_
          rintro e w4 ⟨rfl, l4, hX4, S4⟩
          have hv := hid (vint_any S4 1)
          clear S4 hd
          go_wp2_with fail
          refine hv.out.mono ?_
          rintro e w5 ⟨rfl, S5⟩
          obtain ⟨⟨z0, hz0⟩, ⟨z1, hz1⟩, ⟨z2, hz2⟩, ⟨z3, hz3⟩, ⟨z4, hz4⟩, ⟨z5, hz5⟩, fz, hlt⟩ := cells6' (S5.own.right.right.tail.head)
          have S9 := hid (hend.out w5 _ (lfInt 1) S5)
          clear hv S5 hend c0 c1 c2 c3 c4 c5 c6
          unfold ansVal
          go_wp2_with fail
          refine bodyPost_ret (v := lfVal (lfInt 1)) (by simp [results, Tryz.results97, go_sem, ansVal, lfVal, lfInt, *] <;> rfl) rfl ?_
          rw [hT2.out]
          exact ⟨rfl, _, hX4, S9.out⟩
        · have hpos := has_len hhs.out.symm
          obtain ⟨hk2, ht2, hsz⟩ := hkt hhs.out.symm
          have hdi2 : di = hitm (fdel fs name) := by rw [hdi.out, dropItm, ← hhs.out, if_pos rfl, if_neg h1, hk2, ht2]; rfl
          have hdl : (fdel fs name).length = fs.length - 1 := by rw [len_fdel, ← hhs.out]; rfl
          have hRB : rightB (hitm (fdel fs name)) := .inr ⟨rfl, rfl, hr.fdel name, by show 1 ≤ (fdel fs name).length; omega, by show (fdel fs name).length ≤ 256; omega, fun f hf => hsz f (by
            have hf2 : f ∈ fdel fs name := hf
            unfold fdel at hf2
            split at hf2
            · exact List.mem_of_mem_eraseIdx hf2
            · exact hf2)⟩
          have hT2 : Hid (T = fKeep S now key di 1) := hid (by rw [hTT.out, fDrop, ← hhs.out, if_pos rfl, if_neg h1, hdi2])
          have hne : ¬ vn2 = 0 := by omega
          have hne2 : ¬ (vn2 : Int) = 0 := by omega
          have hkc := fkeep_any (il := sl') (kind' := di.kind) (text' := di.text) (v' := .slice va2 vn2 vc2) (it := di) S3.out hG hX hT hl key hks (.inl ⟨by rw [hdi2]; exact hRB, hat'.out⟩) ⟨va2, vn2, vc2, rfl⟩ now 1 (.slice (some ⟨g, off, none⟩) n1 cap)
          rw [← hT2.out] at hkc
          unfold fjobVal itemVal at hkc
          replace hkc := hid hkc
          replace hdi2 := hid hdi2
          clear S3 hcnt hln hdl
          go_wp2_with fail
          refine hkc.out.mono ?_
          rintro e w3 ⟨rfl, l3, hX3, S4⟩
          have S9 := hid (hend.out w3 l3 T.2 S4)
          obtain ⟨⟨z0, hz0⟩, ⟨z1, hz1⟩, ⟨z2, hz2⟩, ⟨z3, hz3⟩, ⟨z4, hz4⟩, ⟨z5, hz5⟩, fz, hlt⟩ := cells6' (S4.own.right.right.tail.head)
          clear hkc S4 hend c0 c1 c2 c3 c4 c5 c6
          unfold lfVal ansVal
          go_wp2_with fail
          refine bodyPost_ret (v := lfVal T.2) (by simp [results, Tryz.results97, go_sem, ansVal, lfVal, *] <;> rfl) rfl ?_
          exact ⟨rfl, l3, hX3, S9.out⟩

end Go.Proofs.YtkmjlpmepggciaaGreatDoor

namespace Go.Proofs.YtkmjlpmepggciaaGreatDoor
open Go Go.RowKit

/-- What a command's work answers, perhaps with a list, and what it leaves. -/
def FEnd (w0 : World) (R : Hp) (sb : Nat) (S : St) (kind : Int) (text : ByteArray) (n : Int) (xs : List Lf) (e : Ending) (w' : World) : Prop :=
  ∃ a c vl l', e = .returned (ansVal kind text n (.slice a xs.length c)) ∧ IsLfs (.slice a xs.length c) xs vl ∧ IsStore l' sb S ∧ Step w0 [] w' (l' ++ (vl ++ R))
def FDoEnd (w0 : World) (R : Hp) (sb : Nat) (S : St) (kind : Int) (text : ByteArray) (n : Int) (xs : List Lf) (e : Ending) (w' : World) : Prop :=
  ∃ a c vl l', e = .returned (.tuple #[ansVal kind text n (.slice a xs.length c), .bool true]) ∧ IsLfs (.slice a xs.length c) xs vl ∧ IsStore l' sb S ∧ Step w0 [] w' (l' ++ (vl ++ R))
theorem FEnd.leaf {w0 : World} {R : Hp} {sb : Nat} {S : St} {a : Lf} {e : Ending} {w' : World} (h : StPost w0 R sb S (lfVal a) e w') : FEnd w0 R sb S a.kind a.text a.n [] e w' := by
  obtain ⟨rfl, l', h1, h2⟩ := h
  exact ⟨none, 0, [], l', rfl, .nil, h1, h2⟩

end Go.Proofs.YtkmjlpmepggciaaGreatDoor
