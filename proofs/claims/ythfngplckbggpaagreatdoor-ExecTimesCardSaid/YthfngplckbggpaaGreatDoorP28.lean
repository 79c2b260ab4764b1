/-
  The plain law of Put: what is always so is so behind it; commands of many keys.
  texts: pairs (MSET).
  texts: many (MGET).
  texts.When, once; the plain law of SET's options.
-/
import Derived.Test.YthfngplckbggpaaGreatDoorP27
set_option linter.unusedVariables false
set_option linter.unusedSimpArgs false
namespace Go.Proofs.YthfngplckbggpaaGreatDoor
open Go

theorem mlook_snoc_same {m : AL Itm} {k : ByteArray} {v : Itm} : mlook (mdel m k ++ [(k, v)]) k = some v := by
  have h : mlook (mdel m k) k = none := mlook_mdel_same
  simp only [mlook, Option.map_eq_none_iff] at h
  simp only [mlook, List.find?_append, h]
  simp

theorem lay_load (S : St) (key : ByteArray) (it : Itm) (keep : Bool) : (S.lay key it keep).load ≤ S.load + 2 := by
  have h : (mdel S.L key).length ≤ S.L.length := List.length_filter_le _ _
  simp only [St.load, St.lay, List.length_append, List.length_cons, List.length_nil]
  omega

theorem put_ok {S : St} (hf : Fit S) (hT : Tight S) {key : ByteArray} {it : Itm} (hk : key.size ≤ 512) (hr : rightB it) (hc : cost key it ≤ S.bud) (keep : Bool) (now : Int) :
    Fit (S.put key it keep now) ∧ Tight (S.put key it keep now) ∧ (S.put key it keep now).load ≤ S.load + 2 := by
  have hc' : cost key it ≤ (S.due key now).bud := by rw [due_bud]; exact hc
  have hl := (hf.due key now).lay (hT.due key now) hk hr hc' keep
  have he := evict_ok ((S.due key now).lay key it keep).L.length ((S.due key now).lay key it keep) key hl (Nat.le_refl _) ⟨it, mlook_snoc_same, hc'⟩
  refine ⟨he.1, he.2.1, ?_⟩
  show (((S.due key now).lay key it keep).evict _ key).load ≤ _
  rw [St.load_evict _ hl]
  have := lay_load (S.due key now) key it keep
  rw [St.load_due hf] at this
  exact this

theorem text_right {s : ByteArray} (h : s.size ≤ 4096) : rightB (textItm s) := .inl ⟨rfl, h, rfl⟩

theorem putE_zero {S : St} {key : ByteArray} {it : Itm} (h : S.putE key it = 0) : key.size ≤ 512 ∧ ¬ (it.kind = 1 ∧ 4096 < it.text.size) ∧ cost key it ≤ S.bud := by
  unfold St.putE at h
  split at h
  · omega
  · rename_i h1
    split at h
    · omega
    · omega

theorem putG_ok {S : St} (hf : Fit S) (hT : Tight S) (key : ByteArray) (it : Itm) (hr : rightB it ∨ (it.kind = 1 ∧ it.fs = [])) (keep : Bool) (now : Int) :
    Fit (S.putG key it keep now) ∧ Tight (S.putG key it keep now) ∧ (S.putG key it keep now).load ≤ S.load + 2 := by
  unfold St.putG
  split
  · rename_i h
    obtain ⟨h1, h2, h3⟩ := putE_zero h
    refine put_ok hf hT h1 ?_ h3 keep now
    rcases hr with hr | ⟨ha, hb⟩
    · exact hr
    · exact .inl ⟨ha, by have := fun h => h2 ⟨ha, h⟩; omega, hb⟩
  · exact ⟨hf.due _ _, hT.due _ _, by rw [St.load_due hf]; omega⟩
theorem putG_text {S : St} (hf : Fit S) (hT : Tight S) (key s : ByteArray) (keep : Bool) (now : Int) :
    Fit (S.putG key (textItm s) keep now) ∧ Tight (S.putG key (textItm s) keep now) ∧ (S.putG key (textItm s) keep now).load ≤ S.load + 2 := putG_ok hf hT key _ (.inr ⟨rfl, rfl⟩) keep now

/-- What MGET tells of a key. -/
def tOne (o : Option Itm) : Lf := match o with
  | some it => if it.kind = 1 then lfText it.text else lfNil
  | none => lfNil
theorem tMany_cons (S : St) (now : Int) (k : ByteArray) (ks : List ByteArray) : tMany S now (k :: ks) = ((tMany (S.get k now) now ks).1, tOne (S.look k now) :: (tMany (S.get k now) now ks).2) := by
  rw [tMany]; rfl

end Go.Proofs.YthfngplckbggpaaGreatDoor

namespace Go.Proofs.YthfngplckbggpaaGreatDoor
open Go Go.RowKit

set_option maxRecDepth 100000 in
set_option maxHeartbeats 4000000 in
theorem pairs_job {w0 w : World} {l r : Hp} {sb : Nat} {S : St} {g off : Nat} {ws : List ByteArray} (h : Ctx w0 w l r sb S g off ws) (hfew : ws.length ≤ 1000) (now : Int) (cap : Nat) :
    Calls Tryz.prog 48 #[jobVal sb now g off ws.length cap] w (StPost w0 r sb (tPairs S now ws).1 (lfVal (tPairs S now ws).2)) := by
  have H := (h.alloc (JobObj sb now g off ws.length cap)).alloc ZeroVal
  generalize hT : tPairs S now ws = T
  clear h
  obtain ⟨n, hlen⟩ : ∃ n, ws.length = n := ⟨_, rfl⟩
  rw [hlen] at H hfew ⊢
  replace hlen := hid hlen
  replace hT := hid hT
  replace H := hid H
  go_enter Tryz.func48, Tryz.ntmps48
  unfold jobVal
  go_upto_region 1 with fail
  generalize hw1 : (w.alloc _).alloc _ = w1
  replace H : Ctx w0 w1 _ _ _ _ _ _ _ := hw1 ▸ H.out
  clear hw1
  simp only [World.size_alloc] at H
  generalize w.heap.size = b at H ⊢
  have hjob := hid (Ctx.job (A := [(b + 1, ZeroVal)]) H)
  obtain ⟨R, hR⟩ : ∃ R, R = [(b + 1, ZeroVal)] ++ (b, JobObj sb now g off n cap) :: r := ⟨_, rfl⟩
  rw [← hR] at hjob
  replace H : Ctx w0 w1 l R sb S g off ws := hR ▸ H
  have hend : ∀ (w' : World) (l3 : Hp) (a' : Lf), Step w0 [] w' (l3 ++ R) → Step w0 [] _ (l3 ++ r) := fun w' l3 a' h => ((h.permR (l2 := (b + 1, ZeroVal) :: (l3 ++ r ++ [(b, JobObj sb now g off n cap)])) (perm_by fun f => by
    rw [hR]; simp only [List.map_append, List.sum_append, List.map_cons, List.sum_cons, List.map_nil, List.sum_nil]; omega)).setLf a').less (List.sublist_append_left _ _)
  have hres : (b + 1, ZeroVal) ∈ R := by rw [hR]; simp
  have hgl := hid H.gl
  have hsmall := hid H.args.small
  have hst0 := hid H.st
  have his0 := hid H.is
  have hti0 := hid H.tight
  have hlo0 := hid H.load
  clear hR H
  go_wp2_with fail
  go_loopw [3] (fun s3 wr => ∃ (k : Nat) (S' : St) (l' : Hp), s3 = .int .i64 k ∧ k ≤ n + 1 ∧ Hid (T = tPairs S' now (ws.drop k)) ∧ Hid (IsStore l' sb S') ∧ Hid (Tight S') ∧ Hid (S'.load ≤ 1000000000000 + 2 * k) ∧ Hid (Step w0 [] wr (l' ++ R))) (fun s3 wr => (n + 2 - intOf s3).toNat)
  case atStart => exact ⟨0, S, l, rfl, Nat.zero_le _, hid hT.out.symm, his0, hti0, hid (by have := hlo0.out; omega), hst0⟩
  case round =>
    obtain ⟨k, S', l', rfl, hk, hrest, hX, hti, hlo, S2⟩ := hrel
    clear hst0 his0 hti0 hlo0 hT
    obtain ⟨j0, j1, j2⟩ := hjob.out.at_ wr ⟨l', S2.out⟩
    by_cases hlt : k + 1 < n
    · obtain ⟨x, hx⟩ : ∃ x, ws[k]? = some x := ⟨ws[k]'(by rw [hlen.out]; omega), List.getElem?_eq_getElem _⟩
      obtain ⟨y, hy⟩ : ∃ y, ws[k + 1]? = some y := ⟨ws[k + 1]'(by rw [hlen.out]; omega), List.getElem?_eq_getElem _⟩
      have hdrop : ws.drop k = x :: y :: ws.drop (k + 2) := by
        rw [List.drop_eq_getElem_cons (by rw [hlen.out]; omega), List.drop_eq_getElem_cons (by rw [hlen.out]; omega)]
        rw [(List.getElem?_eq_some_iff.1 hx).2, (List.getElem?_eq_some_iff.1 hy).2]
      have hsx := hsmall.out x (List.mem_of_getElem? hx)
      have hfit : Fit S' := by obtain ⟨m, _, _, hf⟩ := hX.out; exact hf
      obtain ⟨_, hti2, hlo2⟩ := putG_text hfit hti.out x y false now
      have q0 : ∀ p : InW w0 [] (l' ++ R), p.w.cell? ⟨b, 0, none⟩ = some (ptr sb) := fun p => (hjob.out.at_ p.w ⟨l', p.h⟩).c0
      have q1 : ∀ p : InW w0 [] (l' ++ R), p.w.cell? ⟨b, 1, none⟩ = some (.int .i64 now) := fun p => (hjob.out.at_ p.w ⟨l', p.h⟩).c1
      have q2 : ∀ p : InW w0 [] (l' ++ R), p.w.cell? ⟨b, 2, none⟩ = some (.slice (some ⟨g, off, none⟩) n cap) := fun p => (hjob.out.at_ p.w ⟨l', p.h⟩).c2
      have qx : ∀ p : InW w0 [] (l' ++ R), p.w.cell? ⟨g, off + k, none⟩ = some (.string x) := fun p => hjob.out.arg p.w ⟨l', p.h⟩ k x hx
      have qy : ∀ p : InW w0 [] (l' ++ R), p.w.cell? ⟨g, off + (k + 1), none⟩ = some (.string y) := fun p => hjob.out.arg p.w ⟨l', p.h⟩ (k + 1) y hy
      have hklt : k < n := by omega
      have hlt2 : (k : Int) + 1 < (n : Int) := by omega
      have hlt3 : (k : Int) < (n : Int) := by omega
      have hev : S'.ev.length ≤ 1099511627776 := by have := hlo.out; unfold St.load at this; omega
      replace hfit := hid hfit
      replace hti2 := hid hti2
      replace hlo2 := hid hlo2
      rw [hdrop] at hrest
      replace hx := hid hx
      replace hy := hid hy
      replace hev := hid hev
      clear hdrop
      go_wp2_with fail
      refine wp_region_tail 16 S2.out (by kernel_rfl) (by kernel_rfl) (fun hne => ?_)
      simp only [List.take_succ_cons, List.take_zero, List.drop_succ_cons, List.drop_zero]
      repeat (go_big_quiet_step ((go_at_call 92; refine Calls.inw (ttext_any (InW.h _) y))))
      refine tail_nil fun w2 S3 => ?_
      clear q0 q1 q2 qx qy hne S2 j0 j1 j2
      have hput := hid (sput_gen (l := l') (il := []) (r := R) (it := textItm y) S3 hgl.out hX.out hti.out hev.out x hsx (Putable.text y) false now)
      have hknown := putE_known S' x (textItm y)
      have hTT : Hid (T = if S'.putE x (textItm y) = 0 then tPairs (S'.putG x (textItm y) false now) now (ws.drop (k + 2)) else (S'.putG x (textItm y) false now, lfErr (S'.putE x (textItm y)))) := hid hrest.out
      have hlo3 : Hid ((S'.putG x (textItm y) false now).load ≤ 1000000000000 + 2 * (k + 2)) := hid (by have := hlo.out; have := hlo2.out; omega)
      clear S3 hrest hX hti hlo hlo2 hfit hx hy hev
      generalize S'.putE x (textItm y) = pe at hput hknown hTT
      generalize S'.putG x (textItm y) false now = pg at hput hTT hti2 hlo3
      simp only [itemVal, textItm, List.nil_append] at hput
      unfold itemVal
      go_wp2_with fail
      refine hput.out.mono ?_
      rintro e w3 ⟨rfl, l3, hX3, S4⟩
      replace hX3 := hid hX3
      clear hput
      rcases hknown with rfl | ⟨hne, hkn⟩
      · rw [if_pos rfl] at hTT
        replace S4 := hid S4
        go_wp2_with fail
        go_roundw
        case rel => exact ⟨k + 2, pg, l3, rfl, by omega, hTT, hX3, hti2, hlo3, S4⟩
        case measure => simp [intOf]; omega
      · rw [if_neg hne] at hTT
        have herr := hid (tfail_any S4 pe hkn)
        have hpb : (pe == 0) = false := by simpa using hne
        clear S4 hkn hne
        unfold lfErr at hTT
        generalize errText pe = te at herr hTT
        go_wp2_with fail
        refine herr.out.mono ?_
        rintro e1 w4 ⟨rfl, S5⟩
        have S6 := hid (hend w4 l3 ⟨2, te, 0⟩ S5)
        obtain ⟨⟨c0, hc0⟩, ⟨c1, hc1⟩, ⟨c2, hc2⟩, ⟨c3, hc3⟩, ⟨c4, hc4⟩, ⟨c5, hc5⟩, fz, hlt⟩ := cells6' (S5.own.right.at_ _ hres)
        clear herr S5 hend
        unfold ansVal
        go_wp2_with fail
        refine bodyPost_ret (v := lfVal ⟨2, te, 0⟩) (by simp [results, Tryz.results48, go_sem, ansVal, lfVal, *] <;> rfl) rfl ?_
        rw [hTT.out]
        exact ⟨rfl, l3, hX3.out, S6.out⟩
    · have hTT : Hid (T = (S', lfOk)) := hid (by
        rw [hrest.out]
        have hl : (ws.drop k).length ≤ 1 := by rw [List.length_drop, hlen.out]; omega
        match hd : ws.drop k, hl with
        | [], _ => rfl
        | [_], _ => rfl
        | _ :: _ :: _, hl => simp at hl)
      have hlt2 : ¬ (k : Int) + 1 < (n : Int) := by omega
      have hok := hid (vok_any S2.out)
      clear hrest S2
      go_wp2_with fail
      refine hok.out.mono ?_
      rintro e1 w4 ⟨rfl, S5⟩
      have S6 := hid (hend w4 l' lfOk S5)
      obtain ⟨⟨c0, hc0⟩, ⟨c1, hc1⟩, ⟨c2, hc2⟩, ⟨c3, hc3⟩, ⟨c4, hc4⟩, ⟨c5, hc5⟩, fz, hlt⟩ := cells6' (S5.own.right.at_ _ hres)
      clear hok S5 hend
      unfold ansVal
      go_wp2_with fail
      refine bodyPost_ret (v := lfVal lfOk) (by simp [results, Tryz.results48, go_sem, ansVal, lfVal, lfOk, *] <;> rfl) rfl ?_
      rw [hTT.out]
      exact ⟨rfl, l', hX.out, S6.out⟩

end Go.Proofs.YthfngplckbggpaaGreatDoor

namespace Go.Proofs.YthfngplckbggpaaGreatDoor
open Go Go.RowKit

def MPost (w0 : World) (r : Hp) (sb : Nat) (S : St) (kind : Int) (xs : List Lf) (e : Ending) (w' : World) : Prop :=
  ∃ v vl l', e = .returned (ansVal kind ByteArray.empty 0 v) ∧ IsLfs v xs vl ∧ IsStore l' sb S ∧ Step w0 [] w' (l' ++ (vl ++ r))

/-- texts.told, of a text or of nothing. -/
theorem told_one {w0 w : World} {r : Hp} (hS : Step w0 [] w r) (o : Option Itm) (v : Value) :
    Calls Tryz.prog 42 #[.agg #[.int .i64 (o.getD zeroItm).kind, .string (o.getD zeroItm).text, v], .bool (o.isSome && ((o.getD zeroItm).kind == 1))] w (AnsPost w0 r (lfVal (tOne o))) := by
  cases o with
  | none => exact told_nil hS _ _ v
  | some it =>
    simp only [Option.getD_some, Option.isSome_some, tOne, Bool.true_and]
    by_cases hk : it.kind = 1
    · rw [if_pos hk, hk]; exact told_text hS _ _ v (by decide)
    · rw [if_neg hk, beq_eq_false_iff_ne.2 hk]; exact told_nil hS _ _ v

set_option maxRecDepth 100000 in
set_option maxHeartbeats 4000000 in
theorem many_job {w0 w : World} {l r : Hp} {sb : Nat} {S : St} {g off : Nat} {ws : List ByteArray} (h : Ctx w0 w l r sb S g off ws) (hfew : ws.length ≤ 1000) (now : Int) (cap : Nat) :
    Calls Tryz.prog 47 #[jobVal sb now g off ws.length cap] w (MPost w0 r sb (tMany S now ws).1 5 (tMany S now ws).2) := by
  have H := (h.alloc (JobObj sb now g off ws.length cap)).alloc ZeroVal
  generalize hT : tMany S now ws = T
  clear h
  obtain ⟨n, hlen⟩ : ∃ n, ws.length = n := ⟨_, rfl⟩
  rw [hlen] at H hfew ⊢
  replace hlen := hid hlen
  replace hT := hid hT
  replace H := hid H
  go_enter Tryz.func47, Tryz.ntmps47
  unfold jobVal
  go_upto_region 1 with fail
  generalize hw1 : (w.alloc _).alloc _ = w1
  replace H : Ctx w0 w1 _ _ _ _ _ _ _ := hw1 ▸ H.out
  clear hw1
  simp only [World.size_alloc] at H
  generalize w.heap.size = b at H ⊢
  have hjob := hid (Ctx.job (A := [(b + 1, ZeroVal)]) H)
  obtain ⟨R, hR⟩ : ∃ R, R = [(b + 1, ZeroVal)] ++ (b, JobObj sb now g off n cap) :: r := ⟨_, rfl⟩
  rw [← hR] at hjob
  replace H : Ctx w0 w1 l R sb S g off ws := hR ▸ H
  have hres : (b + 1, ZeroVal) ∈ R := by rw [hR]; simp
  have hgl := hid H.gl
  have hsmall := hid H.args.small
  have hst0 := hid H.st
  have his0 := hid H.is
  have hlo0 := hid H.load
  obtain ⟨j0, j1, j2⟩ := hjob.out.at_ w1 ⟨l, H.st⟩
  clear H
  replace hR := hid hR
  go_wp2_with fail
  have S0 : Hid (Step w0 [] w1 (l ++ ([] ++ R))) := hst0
  clear j0 j1 j2 hst0
  go_loopw [3, 5, 6, 7, 11] (fun s3 s5 s6 s7 s11 wr => ∃ (k : Nat) (S' : St) (l' : Hp) (va : Option Addr) (c : Nat) (sl : Hp) (acc : List Lf), s3 = .slice va k c ∧ s11 = .int .i64 k ∧ k ≤ n ∧ acc.length = k ∧ Hid (T.1 = (tMany S' now (ws.drop k)).1 ∧ T.2 = acc ++ (tMany S' now (ws.drop k)).2) ∧ Hid (IsStore l' sb S') ∧ Hid (S'.load ≤ 1000000000000) ∧ Hid (IsLfs (.slice va k c) acc sl) ∧ Hid (Step w0 [] wr (l' ++ (sl ++ R)))) (fun s3 s5 s6 s7 s11 wr => (n - intOf s11).toNat)
  case atStart => exact ⟨0, S, l, none, 0, [], [], rfl, rfl, Nat.zero_le _, rfl, hid ⟨by rw [← hT.out]; rfl, by rw [← hT.out]; rfl⟩, his0, hlo0, hid .nil, S0⟩
  case round =>
    obtain ⟨k, S', l', va, c, sl, acc, rfl, rfl, hk, hacc, hrest, hX, hlo, hat, S2⟩ := hrel
    replace hacc := hid hacc
    clear S0 his0 hlo0 hT
    have hx2 : InX w0 R wr := ⟨l' ++ sl, by rw [List.append_assoc]; exact S2.out⟩
    obtain ⟨j0, j1, j2⟩ := hjob.out.at_ wr hx2
    by_cases hlt : k < n
    · obtain ⟨x, hx⟩ : ∃ x, ws[k]? = some x := ⟨ws[k]'(by rw [hlen.out]; omega), List.getElem?_eq_getElem _⟩
      have hdrop : ws.drop k = x :: ws.drop (k + 1) := by
        rw [List.drop_eq_getElem_cons (by rw [hlen.out]; omega)]
        rw [(List.getElem?_eq_some_iff.1 hx).2]
      have hfit : Fit S' := by obtain ⟨m, _, _, hf⟩ := hX.out; exact hf
      have hlo2 : Hid ((S'.get x now).load ≤ 1000000000000) := hid (by rw [St.load_get hfit]; exact hlo.out)
      rw [hdrop, tMany_cons] at hrest
      simp only at hrest
      have ja := hjob.out.arg wr hx2 k x hx
      have hsx := hsmall.out x (List.mem_of_getElem? hx)
      have hget := get_any' S2.out hgl.out hX.out (by have := hlo.out; unfold St.load at this; omega) x hsx now
      replace hget : Hid _ := hid (hget.mono fun _ _ hp => PeekEnd.of (x := []) (R := sl ++ R) hp)
      have hlt3 : (k : Int) < (n : Int) := by omega
      have htold : ∀ (w' : World) (L : Hp) (v : Value), Hid (Step w0 [] w' L → _) := fun w' L v => hid fun hw => told_one hw (S'.look x now) v
      unfold lfVal ansVal at htold
      have hone : ∀ a, a = tOne (S'.look x now) → Hid (T.1 = (tMany (S'.get x now) now (ws.drop (k + 1))).1 ∧ T.2 = (acc ++ [a]) ++ (tMany (S'.get x now) now (ws.drop (k + 1))).2) := fun a ha => hid (by rw [ha, List.append_assoc]; exact hrest.out)
      change Hid (Calls _ _ _ _ (PeekEnd w0 (sl ++ R) [] sb (S'.get x now) ((S'.look x now).getD zeroItm).kind ((S'.look x now).getD zeroItm).text (S'.look x now).isSome ((S'.look x now).getD zeroItm).fs)) at hget
      generalize tOne (S'.look x now) = a at htold hone
      replace hone := hone a rfl
      generalize ((S'.look x now).getD zeroItm).kind = kd at hget htold
      generalize ((S'.look x now).getD zeroItm).text = tx at hget htold
      generalize (S'.look x now).isSome = is at hget htold
      generalize ((S'.look x now).getD zeroItm).fs = fs at hget
      generalize S'.get x now = S'' at hget hone hlo2
      clear hfit hdrop hrest hX hlo hx2
      replace hx := hid hx
      go_wp2_with fail
      refine hget.out.mono ?_
      rintro e w2 ⟨va2, vn2, vc2, vl, l2, rfl, hfs, hX2, S3, _⟩
      clear hget S2 j0 j1 j2 ja
      have S4 := S3.out.alloc (ItemObj kd tx (.slice va2 vn2 vc2))
      have hto := hid ((htold _ _ (.slice va2 vn2 vc2)).out S4)
      clear htold S4
      cases is with
      | false =>
        rw [Bool.false_and] at hto
        go_wp2_with fail
        refine hto.out.mono ?_
        rintro e w3 ⟨rfl, S5⟩
        have S6 := S5.alloc (LfObj a)
        obtain ⟨va3, c3, w4, sl3, hrun, hat3, S7⟩ := push_lf (nb := w3.heap.size) (a := a) (r := (w3.heap.size, LfObj a) :: (w2.heap.size, ItemObj kd tx (.slice va2 vn2 vc2)) :: (l2 ++ (vl ++ R))) (S6.permR (perm_by fun f => by simp only [List.map_append, List.sum_append, List.map_cons, List.sum_cons, List.map_nil, List.sum_nil]; omega)) hat.out hacc.out (by omega) (by simp)
        have S8 := hid (S7.pick (l2 := l2 ++ (sl3 ++ R)) (m := (w3.heap.size, LfObj a) :: (w2.heap.size, ItemObj kd tx (.slice va2 vn2 vc2)) :: vl) (perm_by fun f => by simp only [List.map_append, List.sum_append, List.map_cons, List.sum_cons]; omega))
        replace hrun := hid hrun
        replace hat3 := hid hat3
        have hacc2 : Hid ((acc ++ [a]).length = k + 1) := hid (by rw [List.length_append, hacc.out]; rfl)
        clear S3 S5 S6 S7 hto hat hacc hfs
        go_wp2_with (at_builtin; refine wpList_append_run rfl _ _ _ _ rfl _ _ rfl rfl hrun.out ?_)
        go_roundw
        case rel => exact ⟨k + 1, S'', l2, va3, c3, sl3, acc ++ [a], rfl, rfl, hlt, hacc2.out, hone, hX2, hlo2, hat3, S8⟩
        case measure => simp [intOf]; omega
      | true =>
        rw [Bool.true_and] at hto
        go_wp2_with fail
        refine hto.out.mono ?_
        rintro e w3 ⟨rfl, S5⟩
        have S6 := S5.alloc (LfObj a)
        obtain ⟨va3, c3, w4, sl3, hrun, hat3, S7⟩ := push_lf (nb := w3.heap.size) (a := a) (r := (w3.heap.size, LfObj a) :: (w2.heap.size, ItemObj kd tx (.slice va2 vn2 vc2)) :: (l2 ++ (vl ++ R))) (S6.permR (perm_by fun f => by simp only [List.map_append, List.sum_append, List.map_cons, List.sum_cons, List.map_nil, List.sum_nil]; omega)) hat.out hacc.out (by omega) (by simp)
        have S8 := hid (S7.pick (l2 := l2 ++ (sl3 ++ R)) (m := (w3.heap.size, LfObj a) :: (w2.heap.size, ItemObj kd tx (.slice va2 vn2 vc2)) :: vl) (perm_by fun f => by simp only [List.map_append, List.sum_append, List.map_cons, List.sum_cons]; omega))
        replace hrun := hid hrun
        replace hat3 := hid hat3
        have hacc2 : Hid ((acc ++ [a]).length = k + 1) := hid (by rw [List.length_append, hacc.out]; rfl)
        clear S3 S5 S6 S7 hto hat hacc hfs
        go_wp2_with (at_builtin; refine wpList_append_run rfl _ _ _ _ rfl _ _ rfl rfl hrun.out ?_)
        go_roundw
        case rel => exact ⟨k + 1, S'', l2, va3, c3, sl3, acc ++ [a], rfl, rfl, hlt, hacc2.out, hone, hX2, hlo2, hat3, S8⟩
        case measure => simp [intOf]; omega
    · obtain rfl : k = n := by omega
      have hTT : Hid (T.1 = S' ∧ T.2 = acc) := hid (by
        have h0 : ws.drop k = [] := List.drop_eq_nil_iff.2 (by rw [hlen.out]; omega)
        have := hrest.out
        rw [h0] at this
        simpa [tMany] using this)
      have hlist := vlist_any (S2.out.permR (l2 := sl ++ (l' ++ R)) (perm_by fun f => by simp only [List.map_append, List.sum_append]; omega)) hat.out (by rw [hacc.out]; omega)
      replace hlist := hid hlist
      clear hrest S2 j0 j1 j2 hx2
      go_wp2_with fail
      refine hlist.out.mono ?_
      rintro e w2 ⟨v, sl2, rfl, hat2, S3⟩
      obtain ⟨a2, cc, rfl, _, _⟩ := hat2.form
      have S4 := S3.permR (l2 := (b + 1, ZeroVal) :: (l' ++ (sl2 ++ r) ++ (sl ++ [(b, JobObj sb now g off k cap)]))) (perm_by fun f => by
        rw [hR.out]; simp only [List.map_append, List.sum_append, List.map_cons, List.sum_cons, List.map_nil, List.sum_nil]; omega)
      obtain ⟨⟨c0, hc0⟩, ⟨c1, hc1⟩, ⟨c2, hc2⟩, ⟨c3, hc3⟩, ⟨c4, hc4⟩, ⟨c5, hc5⟩, fz, hlt2⟩ := cells6' S4.own.head
      have S9 := hid ((((((((S4.set 0 (.int .i64 5)).set 1 (.string ByteArray.empty)).set 2 (.int .i64 0)).set 3 (.float .f64 0)).set 4 (.bool false)).set 5 (.slice a2 acc.length cc)).less (List.sublist_cons_self _ _)).less (List.sublist_append_left _ _))
      replace hat2 := hid hat2
      clear S3 S4 hlist hat
      generalize acc.length = na at hat2 S9 ⊢
      unfold ansVal
      go_wp2_with fail
      refine bodyPost_ret (v := ansVal 5 ByteArray.empty 0 (.slice a2 na cc)) (by simp [results, Tryz.results47, go_sem, ansVal, *] <;> rfl) rfl ?_
      rw [hTT.out.1, hTT.out.2]
      exact ⟨_, sl2, l', rfl, hat2.out, hX.out, S9.out⟩

end Go.Proofs.YthfngplckbggpaaGreatDoor

namespace Go.Proofs.YthfngplckbggpaaGreatDoor
open Go Go.RowKit

/-- A time so long from now, and what is wrong. -/
def whenOf (now n unit : Int) : Int × Int :=
  if (9223372036854775807 : Int).tdiv unit < n ∨ n < (-9223372036854775808 : Int).tdiv unit then (0, 111) else
  match wadd now (n * unit) with
  | none => (0, 111)
  | some t => if t < 0 ∨ 4611686018427387904 < t then (0, 111) else (t, 0)

theorem when_1 (now n : Int) (w : World) (h1 : -9223372036854775808 ≤ now ∧ now ≤ 9223372036854775807) (h2 : -9223372036854775808 ≤ n ∧ n ≤ 9223372036854775807) :
    Calls Tryz.prog 114 #[.int .i64 now, .int .i64 n, .int .i64 1] w fun e w' => e = .returned (.tuple #[.int .i64 (whenOf now n 1).1, .int .i64 (whenOf now n 1).2]) ∧ w = w' := by
  have hadd := hid (wadd_any now n w h1 h2)
  have e1 : whenOf now n 1 = (match wadd now n with
    | none => (0, 111)
    | some t => if t < 0 ∨ 4611686018427387904 < t then (0, 111) else (t, 0)) := by
    unfold whenOf
    rw [if_neg (by simp only [Int.tdiv_one]; omega), Int.mul_one]
  obtain ⟨T, hT⟩ : ∃ T, T = whenOf now n 1 := ⟨_, rfl⟩
  rw [← hT] at e1 ⊢
  replace e1 := hid e1
  clear hT
  obtain ⟨h3, h4⟩ := h2
  cases ha : wadd now n with
  | none =>
    rw [ha] at hadd e1
    have hz : Hid (T = (0, 111)) := hid e1.out
    clear e1 ha
    simp only [wover, Option.isSome_none, Bool.false_eq_true, if_false, Option.getD_none] at hadd
    go_enter Tryz.func114, Tryz.ntmps114
    go_wp2_with fail
    refine hadd.out.mono ?_
    rintro e w2 ⟨rfl, rfl⟩
    go_wp2_with fail
    go_ret2
    rw [hz.out]
    exact ⟨rfl, rfl⟩
  | some t =>
    rw [ha] at hadd e1
    simp only [wover, Option.isSome_some, if_true, Option.getD_some] at hadd
    simp only at e1
    clear ha
    by_cases h5 : t < 0
    · have hz : Hid (T = (0, 111)) := hid (by rw [e1.out, if_pos (.inl h5)])
      clear e1
      go_enter Tryz.func114, Tryz.ntmps114
      go_wp2_with fail
      refine hadd.out.mono ?_
      rintro e w2 ⟨rfl, rfl⟩
      go_wp2_with fail
      go_ret2
      rw [hz.out]
      exact ⟨rfl, rfl⟩
    · by_cases h6 : 4611686018427387904 < t
      · have hz : Hid (T = (0, 111)) := hid (by rw [e1.out, if_pos (.inr h6)])
        clear e1
        go_enter Tryz.func114, Tryz.ntmps114
        go_wp2_with fail
        refine hadd.out.mono ?_
        rintro e w2 ⟨rfl, rfl⟩
        go_wp2_with fail
        go_ret2
        rw [hz.out]
        exact ⟨rfl, rfl⟩
      · have hz : Hid (T = (t, 0)) := hid (by rw [e1.out, if_neg (by omega)])
        clear e1
        go_enter Tryz.func114, Tryz.ntmps114
        go_wp2_with fail
        refine hadd.out.mono ?_
        rintro e w2 ⟨rfl, rfl⟩
        go_wp2_with fail
        go_ret2
        rw [hz.out]
        exact ⟨rfl, rfl⟩

theorem when_1000 (now n : Int) (w : World) (h1 : -9223372036854775808 ≤ now ∧ now ≤ 9223372036854775807) (h2 : -9223372036854775808 ≤ n ∧ n ≤ 9223372036854775807) :
    Calls Tryz.prog 114 #[.int .i64 now, .int .i64 n, .int .i64 1000] w fun e w' => e = .returned (.tuple #[.int .i64 (whenOf now n 1000).1, .int .i64 (whenOf now n 1000).2]) ∧ w = w' := by
  obtain ⟨T, hT⟩ : ∃ T, T = whenOf now n 1000 := ⟨_, rfl⟩
  obtain ⟨h3, h4⟩ := h2
  have d1 : (9223372036854775807 : Int).tdiv 1000 = 9223372036854775 := by decide
  have d2 : (-9223372036854775808 : Int).tdiv 1000 = -9223372036854775 := by decide
  by_cases g1 : 9223372036854775 < n
  · have hz : Hid (T = (0, 111)) := hid (by rw [hT]; unfold whenOf; rw [d1, if_pos (.inl g1)])
    rw [← hT]
    clear hT d1 d2
    go_enter Tryz.func114, Tryz.ntmps114
    go_wp2_with fail
    go_ret2
    rw [hz.out]
    exact ⟨rfl, rfl⟩
  by_cases g2 : n < -9223372036854775
  · have hz : Hid (T = (0, 111)) := hid (by rw [hT]; unfold whenOf; rw [d2, if_pos (.inr g2)])
    rw [← hT]
    clear hT d1 d2
    go_enter Tryz.func114, Tryz.ntmps114
    go_wp2_with fail
    go_ret2
    rw [hz.out]
    exact ⟨rfl, rfl⟩
  have h5 : -9223372036854775808 ≤ n * 1000 := by omega
  have h6 : n * 1000 ≤ 9223372036854775807 := by omega
  have hadd := hid (wadd_any now (n * 1000) w h1 ⟨h5, h6⟩)
  have e1 : whenOf now n 1000 = (match wadd now (n * 1000) with
    | none => (0, 111)
    | some t => if t < 0 ∨ 4611686018427387904 < t then (0, 111) else (t, 0)) := by
    unfold whenOf
    rw [d1, d2, if_neg (by omega)]
  rw [← hT] at e1 ⊢
  replace e1 := hid e1
  clear hT d1 d2
  cases ha : wadd now (n * 1000) with
  | none =>
    rw [ha] at hadd e1
    have hz : Hid (T = (0, 111)) := hid e1.out
    clear e1 ha
    simp only [wover, Option.isSome_none, Bool.false_eq_true, if_false, Option.getD_none] at hadd
    go_enter Tryz.func114, Tryz.ntmps114
    go_wp2_with fail
    refine hadd.out.mono ?_
    rintro e w2 ⟨rfl, rfl⟩
    go_wp2_with fail
    go_ret2
    rw [hz.out]
    exact ⟨rfl, rfl⟩
  | some t =>
    rw [ha] at hadd e1
    simp only [wover, Option.isSome_some, if_true, Option.getD_some] at hadd
    simp only at e1
    clear ha
    by_cases h7 : t < 0
    · have hz : Hid (T = (0, 111)) := hid (by rw [e1.out, if_pos (.inl h7)])
      clear e1
      go_enter Tryz.func114, Tryz.ntmps114
      go_wp2_with fail
      refine hadd.out.mono ?_
      rintro e w2 ⟨rfl, rfl⟩
      go_wp2_with fail
      go_ret2
      rw [hz.out]
      exact ⟨rfl, rfl⟩
    · by_cases h8 : 4611686018427387904 < t
      · have hz : Hid (T = (0, 111)) := hid (by rw [e1.out, if_pos (.inr h8)])
        clear e1
        go_enter Tryz.func114, Tryz.ntmps114
        go_wp2_with fail
        refine hadd.out.mono ?_
        rintro e w2 ⟨rfl, rfl⟩
        go_wp2_with fail
        go_ret2
        rw [hz.out]
        exact ⟨rfl, rfl⟩
      · have hz : Hid (T = (t, 0)) := hid (by rw [e1.out, if_neg (by omega)])
        clear e1
        go_enter Tryz.func114, Tryz.ntmps114
        go_wp2_with fail
        refine hadd.out.mono ?_
        rintro e w2 ⟨rfl, rfl⟩
        go_wp2_with fail
        go_ret2
        rw [hz.out]
        exact ⟨rfl, rfl⟩

set_option maxRecDepth 100000 in
theorem once_any {w0 w : World} {l r : Hp} {ob j : Nat} {cs : Array Value} {t : TypeId} {v : Bool} (hS : Step w0 l w ((ob, .cells cs t (0, 0)) :: r)) (hv : cs[j]? = some (.bool v)) :
    Calls Tryz.prog 146 #[.pointer (some ⟨ob, j, none⟩)] w fun e w' => e = .returned (.bool (!v)) ∧ Step w0 l w' ((ob, .cells (cs.setIfInBounds j (.bool true)) t (0, 0)) :: r) := by
  have c0 : w.cell? ⟨ob, j, none⟩ = some (.bool v) := by rw [cells_get hS.own.head, hv]
  have fz := cells_free hS.own.head j
  have hlt := block_lt hS.own.head
  have S1 := hid (hS.set j (.bool true))
  clear hS hv
  go_enter Tryz.func146, Tryz.ntmps146
  go_wp2_with fail
  go_ret
  exact ⟨rfl, S1.out⟩

end Go.Proofs.YthfngplckbggpaaGreatDoor
