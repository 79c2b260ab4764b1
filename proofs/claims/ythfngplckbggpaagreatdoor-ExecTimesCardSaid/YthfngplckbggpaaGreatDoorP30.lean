/-
  texts: set.
-/
import Derived.Test.YthfngplckbggpaaGreatDoorP29
import Derived.Deep.CutBlock
set_option linter.unusedVariables false
set_option linter.unusedSimpArgs false
namespace Go.Proofs.YthfngplckbggpaaGreatDoor
open Go Go.RowKit

theorem whenOf_known (now n unit : Int) : (whenOf now n unit).2 = 0 ∨ (whenOf now n unit).2 = 111 := by
  unfold whenOf
  split
  · exact .inr rfl
  · split
    · exact .inr rfl
    · split
      · exact .inr rfl
      · exact .inl rfl
theorem whenOf_le (now n unit : Int) : (whenOf now n unit).1 ≤ 4611686018427387904 := by
  unfold whenOf
  split
  · simp
  · split
    · simp
    · split
      · simp
      · rename_i h; simp only; omega
theorem tOpts_known (now : Int) (l : List ByteArray) : (tOpts now l).2 = 0 ∨ (¬ (tOpts now l).2 = 0 ∧ errKnown (tOpts now l).2) := by
  unfold tOpts errKnown
  split
  · split
    · right; simp
    · split
      · left; rfl
      · split
        · right; simp
        · split
          · right; simp
          · rename_i x _ _
            rcases whenOf_known now x (optLoop l optZero).1.unit with h | h
            · left; exact h
            · right; simp only [h]; simp
  · right; simp
theorem tOpts_when (now : Int) (l : List ByteArray) : (tOpts now l).1.when_ ≤ 4611686018427387904 := by
  unfold tOpts
  split
  · split
    · simp [optOf]
    · split
      · simp [optOf]
      · split
        · simp [optOf]
        · split
          · simp [optOf]
          · exact whenOf_le _ _ _
  · simp [optOf]

/-- SET, its options known. -/
def tSetO (S : St) (now : Int) (key s : ByteArray) (o : Opt) : St × Lf :=
  if o.get = true ∧ (toldOf (S.look key now)).kind = 2 then (S.due key now, toldOf (S.look key now)) else
  if ((o.nx && (S.look key now).isSome) || (o.xx && !(S.look key now).isSome)) = true then (S.due key now, if o.get then toldOf (S.look key now) else lfNil) else
  if (S.due key now).putE key (textItm s) = 0 then
    (if o.ends then (((S.due key now).putG key (textItm s) o.keep now).due key now).expire key o.when_ now else (S.due key now).putG key (textItm s) o.keep now, if o.get then toldOf (S.look key now) else lfOk)
  else ((S.due key now).putG key (textItm s) o.keep now, lfErr ((S.due key now).putE key (textItm s)))
def tSet (S : St) (now : Int) (key s : ByteArray) (l : List ByteArray) : St × Lf :=
  if (tOpts now l).2 = 0 then tSetO S now key s (tOpts now l).1 else (S, lfErr (tOpts now l).2)

theorem expire_load {S : St} (hf : Fit S) (key : ByteArray) (w now : Int) : (S.expire key w now).load ≤ S.load + 1 := by
  unfold St.expire
  split
  · split
    · rw [St.load_gone hf]; omega
    · simp only [St.load, List.length_append, List.length_cons, List.length_nil]; omega
  · omega

set_option maxRecDepth 100000 in
set_option maxHeartbeats 1500000 in
theorem set_job {w0 w : World} {l r : Hp} {sb : Nat} {S : St} {g off : Nat} {k m : ByteArray} {ws : List ByteArray} (h : Ctx w0 w l r sb S g off (k :: m :: ws)) (now : Int) (hnow : 0 ≤ now ∧ now ≤ 4611686018427387904) (cap : Nat) (hcap : (k :: m :: ws).length ≤ cap) (hcap2 : cap ≤ 1099511627776) :
    Calls Tryz.prog 44 #[jobVal sb now g off (k :: m :: ws).length cap] w (StPost w0 r sb (tSet S now k m ws).1 (lfVal (tSet S now k m ws).2)) := by
  have H := (h.alloc (JobObj sb now g off (k :: m :: ws).length cap)).alloc ZeroVal
  generalize hT : tSet S now k m ws = T
  clear h
  obtain ⟨n, hlen⟩ : ∃ n, (k :: m :: ws).length = n := ⟨_, rfl⟩
  have hn2 : 1 < n := by rw [← hlen]; simp only [List.length_cons]; omega
  have hn3 : (1 : Int) < (n : Int) := by omega
  have hn4 : 0 < n := by omega
  rw [hlen] at H hcap ⊢
  replace hlen := hid hlen
  replace hT := hid hT
  replace H := hid H
  go_enter Tryz.func44, Tryz.ntmps44
  unfold jobVal
  go_upto_region 1 with fail
  generalize hw1 : (w.alloc _).alloc _ = w1
  replace H : Ctx w0 w1 _ _ _ _ _ _ _ := hw1 ▸ H.out
  clear hw1
  simp only [World.size_alloc] at H
  generalize w.heap.size = b at H ⊢
  have hjob := hid (Ctx.job (A := [(b + 1, ZeroVal)]) H)
  obtain ⟨R, hR⟩ : ∃ R, R = [(b + 1, ZeroVal)] ++ (b, JobObj sb now g off n cap) :: r := ⟨_, rfl⟩
  rw [← hR] at hjob
  replace H : Ctx w0 w1 l R sb S g off (k :: m :: ws) := hR ▸ H
  have hend : Hid (∀ (w' : World) (l3 X : Hp) (a' : Lf), Step w0 [] w' (l3 ++ (X ++ R)) → Step w0 [] _ (l3 ++ r)) := hid fun w' l3 X a' h => ((h.permR (l2 := (b + 1, ZeroVal) :: (l3 ++ r ++ (X ++ [(b, JobObj sb now g off n cap)]))) (perm_by fun f => by
    rw [hR]; simp only [List.map_append, List.sum_append, List.map_cons, List.sum_cons, List.map_nil, List.sum_nil]; omega)).setLf a').less (List.sublist_append_left _ _)
  have hres : (b + 1, ZeroVal) ∈ R := by rw [hR]; simp
  obtain ⟨j0, j1, j2⟩ := hjob.out.at_ w1 ⟨l, H.st⟩
  have hopt : Calls Tryz.prog 90 #[jobVal sb now g off n cap] w1 (OptPost w0 (l ++ R) (tOpts now ws)) := by
    have := options_job H now hnow cap (by rw [hlen.out]; exact hcap) hcap2
    rw [hlen.out] at this
    exact this
  unfold jobVal at hopt
  have hknown := tOpts_known now ws
  have hwhen := tOpts_when now ws
  have hTT : Hid (T = if (tOpts now ws).2 = 0 then tSetO S now k m (tOpts now ws).1 else (S, lfErr (tOpts now ws).2)) := hid hT.out.symm
  clear hT hR
  generalize tOpts now ws = p at hopt hknown hwhen hTT
  obtain ⟨o0, code⟩ := p
  simp only at hknown hTT hwhen
  replace hopt := hid hopt
  replace H := hid H
  rcases hknown with rfl | ⟨hne, hkn⟩
  · rw [if_pos rfl] at hTT
    go_wp2_with fail
    refine hopt.out.mono ?_
    rintro e w2 ⟨o, rfl, ho, S2⟩
    simp only at ho
    obtain rfl : o = o0 := ho trivial
    clear hopt ho j0 j1 j2
    unfold optVal
    obtain ⟨nx, xx, get, keep, ends, wh⟩ := o
    simp only at hwhen ⊢
    go_upto_region 4 with fail
    have S3 := S2.alloc (OptObj ⟨nx, xx, get, keep, ends, wh⟩)
    generalize hw3 : w2.alloc _ = w3
    replace S3 : Step w0 [] w3 _ := hw3 ▸ S3
    clear hw3 S2
    generalize w2.heap.size = ob at S3 ⊢
    have H3 := hid (H.out.at (r' := (ob, OptObj ⟨nx, xx, get, keep, ends, wh⟩) :: R) (x := [(ob, OptObj ⟨nx, xx, get, keep, ends, wh⟩)]) rfl (S3.permR (perm_by fun f => by simp only [List.map_append, List.sum_append, List.map_cons, List.sum_cons]; omega)))
    have hx3 : InX w0 R w3 := ⟨(ob, OptObj ⟨nx, xx, get, keep, ends, wh⟩) :: l, S3⟩
    obtain ⟨j0, j1, j2⟩ := hjob.out.at_ w3 hx3
    have ja : w3.cell? ⟨g, off, none⟩ = some (.string k) := hjob.out.arg w3 hx3 0 k rfl
    have hpeek := hid (H3.out.peek k (by simp) now [] H3.out.st)
    have hpd : Hid (∀ (w' : World) (l2 x : Hp), IsStore l2 sb (S.due k now) → Step w0 [] w' (l2 ++ (x ++ R)) → Ctx w0 w' l2 (x ++ R) sb (S.due k now) g off (k :: m :: ws)) := hid fun w' l2 x h1 h2 => H.out.peeked k now h1 h2
    clear S3 hx3 H H3
    obtain ⟨kd, hkd⟩ : ∃ kd, kd = ((S.look k now).getD zeroItm).kind := ⟨_, rfl⟩
    obtain ⟨tx, htx⟩ : ∃ tx, tx = ((S.look k now).getD zeroItm).text := ⟨_, rfl⟩
    obtain ⟨is, his⟩ : ∃ is, is = (S.look k now).isSome := ⟨_, rfl⟩
    rw [← hkd, ← htx, ← his] at hpeek
    have htold : ∀ (w' : World) (L : Hp) (v : Value), Hid (Step w0 [] w' L → _) := fun w' L v => hid fun hw => told_all hw (S.look k now) v
    obtain ⟨a, ha⟩ : ∃ a, a = toldOf (S.look k now) := ⟨_, rfl⟩
    rw [← ha, ← hkd, ← htx, ← his] at htold
    unfold lfVal ansVal at htold
    unfold tSetO at hTT
    rw [← ha, ← his] at hTT
    simp only at hTT
    clear hkd htx his ha
    go_wp2_with fail
    refine hpeek.out.mono ?_
    rintro e w4 ⟨va, vn, vc, vl, l2, rfl, hat, hX, S4, _⟩
    clear hpeek j0 j1 j2 ja hat
    go_upto_region 6 with fail
    have S5 := S4.out.alloc (ItemObj kd tx (.slice va vn vc))
    generalize hw5 : w4.alloc _ = w5
    replace S5 : Step w0 [] w5 _ := hw5 ▸ S5
    clear hw5 S4
    generalize w4.heap.size = itb at S5 ⊢
    have hok := hid (vok_any S5)
    clear S5
    go_wp2_with fail
    refine hok.out.mono ?_
    rintro e w6 ⟨rfl, S6⟩
    clear hok
    unfold ansVal
    go_upto_region 7 with fail
    have S7 := S6.alloc (LfObj lfOk)
    generalize hw7 : w6.alloc _ = w7
    replace S7 : Step w0 [] w7 _ := hw7 ▸ S7
    clear hw7 S6
    generalize w6.heap.size = ab at S7 ⊢
    obtain ⟨q0, q1, q2, q3, q4, q5⟩ := optAt (S7.own.at_ (ob, OptObj ⟨nx, xx, get, keep, ends, wh⟩) (by simp))
    go_upto_if 34 with fail
    have S8 := S7.permR (l2 := (ab, LfObj lfOk) :: (l2 ++ ([(ob, OptObj ⟨nx, xx, get, keep, ends, wh⟩)] ++ R) ++ ((itb, ItemObj kd tx (.slice va vn vc)) :: vl))) (perm_by fun f => by
      simp only [List.map_append, List.sum_append, List.map_cons, List.sum_cons, List.map_nil, List.sum_nil]; omega)
    obtain ⟨x0, x1, x2, _⟩ := cells3 (S7.own.at_ (itb, ItemObj kd tx (.slice va vn vc)) (by simp))
    have hne8 : ¬ ab = b + 1 ∧ ¬ b + 1 = ab := by
      have hnd := S7.own.nd
      rw [keys_cons, List.nodup_cons] at hnd
      have : ¬ ab = b + 1 := fun e => hnd.1 (by
        rw [e]
        exact List.mem_map.2 ⟨(b + 1, ZeroVal), List.mem_cons_of_mem _ (List.mem_append_right _ (List.mem_append_right _ (List.mem_append_right _ (List.mem_cons_of_mem _ hres)))), rfl⟩)
      exact ⟨this, fun e => this e.symm⟩
    obtain ⟨hne8a, hne8b⟩ := hne8
    replace S8 := hid S8
    clear S7
    go_cut [8] (fun s8 wx => s8 = .pointer (some ⟨ab, 0, none⟩) ∧ Hid (get = true → ¬ a.kind = 2) ∧ Hid (Step w0 [] wx ((ab, LfObj (if get then a else lfOk)) :: (l2 ++ ([(ob, OptObj ⟨nx, xx, get, keep, ends, wh⟩)] ++ R) ++ ((itb, ItemObj kd tx (.slice va vn vc)) :: vl)))))
    case first =>
      cases get with
      | false =>
        clear htold q0 q1 q2 q3 q4 q5 x0 x1 x2
        go_wp2_with fail
        go_meet
        exact ⟨rfl, hid (fun h => by cases h), S8⟩
      | true =>
        have hto := hid ((htold _ _ (.slice va vn vc)).out S8.out)
        clear htold q0 q1 q2 q3 q4 q5
        go_wp2_with fail
        refine hto.out.mono ?_
        rintro e w8 ⟨rfl, S9⟩
        obtain ⟨⟨c0, hc0⟩, ⟨c1, hc1⟩, ⟨c2, hc2⟩, ⟨c3, hc3⟩, ⟨c4, hc4⟩, ⟨c5, hc5⟩, fz, hlt⟩ := cells6' S9.own.head
        have S10 : Step w0 [] _ ((ab, LfObj a) :: (l2 ++ ([(ob, OptObj ⟨nx, xx, true, keep, ends, wh⟩)] ++ R) ++ ((itb, ItemObj kd tx (.slice va vn vc)) :: vl))) := S9.setLf' a
        clear x0 x1 x2 hto S8
        go_upto_region 9 with fail
        generalize hw9 : (((((w8.setCell _ _).setCell _ _).setCell _ _).setCell _ _).setCell _ _).setCell _ _ = w9
        replace S10 : Step w0 [] w9 _ := hw9 ▸ S10
        clear hw9 hc0 hc1 hc2 hc3 hc4 hc5 fz hlt S9
        obtain ⟨a0, a1, a2, a3, a4, a5⟩ := lfAt S10.own.head
        by_cases ha2 : a.kind = 2
        · have hz : Hid (T = (S.due k now, a)) := hid (by rw [hTT.out]; simp only [ha2, and_self, if_true])
          have ha2b : (a.kind == 2) = true := by rw [ha2]; rfl
          have S11 := hid (hend.out _ l2 ([(ab, LfObj a), (ob, OptObj ⟨nx, xx, true, keep, ends, wh⟩)] ++ ((itb, ItemObj kd tx (.slice va vn vc)) :: vl)) a (S10.permR (perm_by fun f => by
            simp only [List.map_append, List.sum_append, List.map_cons, List.sum_cons, List.map_nil, List.sum_nil]; omega)))
          obtain ⟨⟨d0, hd0⟩, ⟨d1, hd1⟩, ⟨d2, hd2⟩, ⟨d3, hd3⟩, ⟨d4, hd4⟩, ⟨d5, hd5⟩, fz2, hlt2⟩ := cells6' (S10.own.at_ (b + 1, ZeroVal) (by simp [hres]))
          clear S10 hTT ha2
          go_wp2_with fail
          refine bodyPost_ret (v := lfVal a) (by simp [results, Tryz.results44, go_sem, ansVal, lfVal, *] <;> rfl) rfl ?_
          rw [hz.out]
          exact ⟨rfl, l2, hX.out, S11.out⟩
        · have ha2b : (a.kind == 2) = false := by simpa using ha2
          replace S10 := hid S10
          replace ha2 := hid ha2
          go_wp2_with fail
          go_meet
          exact ⟨rfl, hid (fun _ => ha2.out), S10⟩
    case rest =>
      obtain ⟨rfl, hg, S9⟩ := hcut
      clear S8 htold x0 x1 x2 hne8a hne8b
      obtain ⟨A, hA⟩ : ∃ A, A = if get then a else lfOk := ⟨_, rfl⟩
      rw [← hA] at S9
      obtain ⟨RR, hRR⟩ : ∃ RR : Hp, RR = ([(ab, LfObj A), (ob, OptObj ⟨nx, xx, get, keep, ends, wh⟩)] ++ ((itb, ItemObj kd tx (.slice va vn vc)) :: vl)) ++ R := ⟨_, rfl⟩
      have S10 : Step w0 [] wc (l2 ++ RR) := S9.out.permR (perm_by fun f => by
        rw [hRR]; simp only [List.map_append, List.sum_append, List.map_cons, List.sum_cons, List.map_nil, List.sum_nil]; omega)
      have H2 := hid (hpd.out wc l2 ([(ab, LfObj A), (ob, OptObj ⟨nx, xx, get, keep, ends, wh⟩)] ++ ((itb, ItemObj kd tx (.slice va vn vc)) :: vl)) hX.out (by rw [← hRR]; exact S10))
      rw [← hRR] at H2
      have hTT2 : Hid (T = if ((nx && is) || (xx && !is)) = true then (S.due k now, if get then a else lfNil) else
  if (S.due k now).putE k (textItm m) = 0 then
    (if ends then (((S.due k now).putG k (textItm m) keep now).due k now).expire k wh now else (S.due k now).putG k (textItm m) keep now, A)
  else ((S.due k now).putG k (textItm m) keep now, lfErr ((S.due k now).putE k (textItm m)))) := hid (by
        rw [hTT.out, if_neg (fun h => hg.out h.1 h.2), hA])
      have hinx : ∀ (w' : World) (l3 : Hp), Step w0 [] w' (l3 ++ RR) → InX w0 R w' := fun w' l3 h => h.inX (l3 ++ ([(ab, LfObj A), (ob, OptObj ⟨nx, xx, get, keep, ends, wh⟩)] ++ ((itb, ItemObj kd tx (.slice va vn vc)) :: vl))) (List.Perm.of_eq (by rw [hRR]; simp only [List.append_assoc]))
      have hfin : Hid (∀ (w' : World) (l3 : Hp) (a' : Lf), Step w0 [] w' (l3 ++ RR) → Step w0 [] _ (l3 ++ r)) := hid fun w' l3 a' h => hend.out w' l3 ([(ab, LfObj A), (ob, OptObj ⟨nx, xx, get, keep, ends, wh⟩)] ++ ((itb, ItemObj kd tx (.slice va vn vc)) :: vl)) a' (by rw [hRR, List.append_assoc] at h; exact h)
      have hmo : (ob, OptObj ⟨nx, xx, get, keep, ends, wh⟩) ∈ RR := by rw [hRR]; simp
      have hma : (ab, LfObj A) ∈ RR := by rw [hRR]; simp
      have hmr : (b + 1, ZeroVal) ∈ RR := by rw [hRR]; simp [hres]
      have hall : Hid (∀ (w' : World) (l3 : Hp), Step w0 [] w' (l3 ++ RR) → JobAt w' b sb now g off n cap ∧ OptAt w' ob ⟨nx, xx, get, keep, ends, wh⟩ ∧ LfAt w' ab A ∧ w'.cell? ⟨g, off, none⟩ = some (.string k) ∧ w'.cell? ⟨g, off + 1, none⟩ = some (.string m)) := hid fun w' l3 h =>
        ⟨hjob.out.at_ w' (hinx w' l3 h), optAt (h.own.at_ _ (List.mem_append_right _ hmo)), lfAt (h.own.at_ _ (List.mem_append_right _ hma)), hjob.out.arg w' (hinx w' l3 h) 0 k rfl, hjob.out.arg w' (hinx w' l3 h) 1 m rfl⟩
      have hzr : ∀ (w' : World) (l3 : Hp), Hid (Step w0 [] w' (l3 ++ RR) → w'.heap[b + 1]? = some ZeroVal) := fun w' l3 => hid fun h => h.own.at_ _ (List.mem_append_right _ hmr)
      clear S9 hTT hinx hpd hmo hma hmr hend hRR hjob
      obtain ⟨_, ⟨q0, q1, q2, q3, q4, q5⟩, ⟨a0, a1, a2, a3, a4, a5⟩, _⟩ := hall.out wc l2 S10
      replace S10 := hid S10
      go_upto_region 11 with fail
      go_cut [54] (fun c wx => c = .bool ((nx && is) || (xx && !is)) ∧ wx = wc)
      case first =>
        cases nx <;> cases xx <;> cases is <;> (go_wp2_with fail; go_meet; exact ⟨rfl, rfl⟩)
      case rest =>
        obtain ⟨rfl, rfl⟩ := hcut
        generalize hbb : ((nx && is) || (xx && !is)) = bb at hTT2 ⊢
        clear hbb
        cases bb with
        | true =>
          replace hTT2 : Hid (T = (S.due k now, if get then a else lfNil)) := hTT2
          clear hall
          cases get with
          | false =>
            have hz : Hid (T = (S.due k now, lfNil)) := hTT2
            have hnil := hid (vnil_any S10.out)
            clear q0 q1 q3 q4 q5 a0 a1 a2 a3 a4 a5 hTT2 hA
            unfold ansVal at hnil
            go_wp2_with fail
            refine hnil.out.mono ?_
            rintro e w8 ⟨rfl, S11⟩
            obtain ⟨⟨d0, hd0⟩, ⟨d1, hd1⟩, ⟨d2, hd2⟩, ⟨d3, hd3⟩, ⟨d4, hd4⟩, ⟨d5, hd5⟩, fz2, hlt2⟩ := cells6' ((hzr _ _).out S11)
            have S12 := hid (hfin.out _ l2 lfNil S11)
            clear hnil S11 S10 hfin hzr q2
            go_wp2_with fail
            refine bodyPost_ret (v := lfVal lfNil) (by simp [results, Tryz.results44, go_sem, ansVal, lfVal, lfNil, *] <;> rfl) rfl ?_
            rw [hz.out]
            exact ⟨rfl, l2, hX.out, S12.out⟩
          | true =>
            have hz : Hid (T = (S.due k now, a)) := hTT2
            obtain rfl : A = a := hA
            obtain ⟨⟨d0, hd0⟩, ⟨d1, hd1⟩, ⟨d2, hd2⟩, ⟨d3, hd3⟩, ⟨d4, hd4⟩, ⟨d5, hd5⟩, fz2, hlt2⟩ := cells6' ((hzr _ _).out S10.out)
            have S12 := hid (hfin.out _ l2 A S10.out)
            clear q0 q1 q3 q4 q5 hTT2 S10 hfin hzr
            go_wp2_with fail
            refine bodyPost_ret (v := lfVal A) (by simp [results, Tryz.results44, go_sem, ansVal, lfVal, *] <;> rfl) rfl ?_
            rw [hz.out]
            exact ⟨rfl, l2, hX.out, S12.out⟩
        | false =>
          replace hTT2 : Hid (T = if (S.due k now).putE k (textItm m) = 0 then
            (if ends then (((S.due k now).putG k (textItm m) keep now).due k now).expire k wh now else (S.due k now).putG k (textItm m) keep now, A)
            else ((S.due k now).putG k (textItm m) keep now, lfErr ((S.due k now).putE k (textItm m)))) := hTT2
          clear q0 q1 q2 q3 q4 q5 a0 a1 a2 a3 a4 a5 hA hg
          have j0 : ∀ p : InW w0 [] (l2 ++ RR), p.w.cell? ⟨b, 0, none⟩ = some (ptr sb) := fun p => ((hall.out p.w l2 p.h).1).c0
          have j1 : ∀ p : InW w0 [] (l2 ++ RR), p.w.cell? ⟨b, 1, none⟩ = some (.int .i64 now) := fun p => ((hall.out p.w l2 p.h).1).c1
          have j2 : ∀ p : InW w0 [] (l2 ++ RR), p.w.cell? ⟨b, 2, none⟩ = some (.slice (some ⟨g, off, none⟩) n cap) := fun p => ((hall.out p.w l2 p.h).1).c2
          have ja : ∀ p : InW w0 [] (l2 ++ RR), p.w.cell? ⟨g, off + 1, none⟩ = some (.string m) := fun p => (hall.out p.w l2 p.h).2.2.2.2
          have jk : ∀ p : InW w0 [] (l2 ++ RR), p.w.cell? ⟨ob, 3, none⟩ = some (.bool keep) := fun p => ((hall.out p.w l2 p.h).2.1).c3
          go_upto_region 15 with fail
          refine wp_region_tail 12 S10.out (by kernel_rfl) (by kernel_rfl) (fun hne => ?_)
          simp only [List.take_succ_cons, List.take_zero, List.drop_succ_cons, List.drop_zero]
          repeat (go_big_quiet_step ((go_at_call 92; refine Calls.inw (ttext_any (InW.h _) m))))
          refine tail_nil fun w5 S11 => ?_
          clear j0 j1 j2 ja jk hne S10
          have hput := hid (sput_gen (l := l2) (il := []) (r := RR) (it := textItm m) S11 H2.out.gl H2.out.is H2.out.tight (by have := H2.out.ev; omega) k (H2.out.args.small k (by simp)) (Putable.text m) keep now)
          have hknown := putE_known (S.due k now) k (textItm m)
          have hput2 := putG_text H2.out.fit H2.out.tight k m keep now
          have hsmall := H2.out.args.small k (by simp)
          have hev : Hid (((S.due k now).putG k (textItm m) keep now).ev.length ≤ 2199023255552) := hid (by
            have h1 := hput2.2.2
            have h2 := H2.out.load
            unfold St.load at h1 h2
            omega)
          have hgl := hid H2.out.gl
          clear S11 H2 hput2
          generalize (S.due k now).putE k (textItm m) = pe at hput hknown hTT2
          generalize (S.due k now).putG k (textItm m) keep now = pg at hput hTT2 hev
          simp only [itemVal, textItm, List.nil_append] at hput
          unfold itemVal
          go_wp2_with fail
          refine hput.out.mono ?_
          rintro e w6 ⟨rfl, l3, hX3, S12⟩
          replace hX3 := hid hX3
          clear hput
          rcases hknown with rfl | ⟨hne, hkn⟩
          · replace hTT2 : Hid (T = (if ends then (pg.due k now).expire k wh now else pg, A)) := hid (by rw [hTT2.out, if_pos rfl])
            obtain ⟨⟨j0, j1, j2⟩, ⟨q0, q1, q2, q3, q4, q5⟩, ⟨a0, a1, a2, a3, a4, a5⟩, _⟩ := hall.out _ _ S12
            cases ends with
            | false =>
              have hz : Hid (T = (pg, A)) := hTT2
              obtain ⟨⟨d0, hd0⟩, ⟨d1, hd1⟩, ⟨d2, hd2⟩, ⟨d3, hd3⟩, ⟨d4, hd4⟩, ⟨d5, hd5⟩, fz2, hlt2⟩ := cells6' ((hzr _ _).out S12)
              have S13 := hid (hfin.out _ l3 A S12)
              clear q0 q1 q2 q3 q5 j0 j1 j2 hTT2 S12 hfin hzr hall
              go_wp2_with fail
              refine bodyPost_ret (v := lfVal A) (by simp [results, Tryz.results44, go_sem, ansVal, lfVal, *] <;> rfl) rfl ?_
              rw [hz.out]
              exact ⟨rfl, l3, hX3.out, S13.out⟩
            | true =>
              have hz : Hid (T = ((pg.due k now).expire k wh now, A)) := hTT2
              have hexp := hid (expire_any S12 hgl.out hX3.out hev.out k hsmall wh now hnow.1 (by omega))
              replace S12 := hid S12
              clear q0 q1 q2 q3 a0 a1 a2 a3 a4 a5 hTT2
              generalize (pg.due k now).expire k wh now = pq at hexp hz
              generalize (mlook (pg.due k now).L k).isSome = pb at hexp
              go_wp2_with fail
              refine hexp.out.mono ?_
              rintro e w7 ⟨rfl, l4, hX4, S13⟩
              obtain ⟨_, _, ⟨a0, a1, a2, a3, a4, a5⟩, _⟩ := hall.out _ _ S13
              obtain ⟨⟨d0, hd0⟩, ⟨d1, hd1⟩, ⟨d2, hd2⟩, ⟨d3, hd3⟩, ⟨d4, hd4⟩, ⟨d5, hd5⟩, fz2, hlt2⟩ := cells6' ((hzr _ _).out S13)
              have S14 := hid (hfin.out _ l4 A S13)
              clear j0 j1 j2 q4 q5 hexp S12 S13 hfin hzr hall
              replace hX4 := hid hX4
              go_wp2_with fail
              refine bodyPost_ret (v := lfVal A) (by simp [results, Tryz.results44, go_sem, ansVal, lfVal, *] <;> rfl) rfl ?_
              rw [hz.out]
              exact ⟨rfl, l4, hX4.out, S14.out⟩
          · have hz : Hid (T = (pg, lfErr pe)) := hid (by rw [hTT2.out, if_neg hne])
            have herr := hid (tfail_any S12 pe hkn)
            have hpb : (pe == 0) = false := by simpa using hne
            clear S12 hkn hne hTT2
            unfold lfErr at hz
            generalize errText pe = te at herr hz
            unfold ansVal at herr
            go_wp2_with fail
            refine herr.out.mono ?_
            rintro e1 w7 ⟨rfl, S13⟩
            obtain ⟨⟨d0, hd0⟩, ⟨d1, hd1⟩, ⟨d2, hd2⟩, ⟨d3, hd3⟩, ⟨d4, hd4⟩, ⟨d5, hd5⟩, fz2, hlt2⟩ := cells6' ((hzr _ _).out S13)
            have S14 := hid (hfin.out _ l3 ⟨2, te, 0⟩ S13)
            clear herr S13 hfin hzr hall
            go_wp2_with fail
            refine bodyPost_ret (v := lfVal ⟨2, te, 0⟩) (by simp [results, Tryz.results44, go_sem, ansVal, lfVal, *] <;> rfl) rfl ?_
            rw [hz.out]
            exact ⟨rfl, l3, hX3.out, S14.out⟩
  · have hz : Hid (T = (S, lfErr code)) := hid (by rw [hTT.out, if_neg hne])
    clear hTT
    go_wp2_with fail
    refine hopt.out.mono ?_
    rintro e w2 ⟨o, rfl, _, S2⟩
    clear hopt j0 j1 j2
    unfold optVal
    go_upto_region 2 with fail
    have S3 := S2.alloc (OptObj o)
    generalize hw3 : w2.alloc _ = w3
    replace S3 : Step w0 [] w3 _ := hw3 ▸ S3
    clear hw3 S2
    generalize w2.heap.size = ob at S3 ⊢
    have herr := hid (tfail_any S3 code hkn)
    have hcb : (code == 0) = false := by simpa using hne
    unfold lfErr at hz
    generalize errText code = te at herr hz
    clear S3 hkn hne
    go_wp2_with fail
    refine herr.out.mono ?_
    rintro e1 w4 ⟨rfl, S5⟩
    have S6 := hid (hend.out w4 l [(ob, OptObj o)] ⟨2, te, 0⟩ (S5.permR (perm_by fun f => by simp only [List.map_append, List.sum_append, List.map_cons, List.sum_cons, List.map_nil, List.sum_nil]; omega)))
    obtain ⟨⟨c0, hc0⟩, ⟨c1, hc1⟩, ⟨c2, hc2⟩, ⟨c3, hc3⟩, ⟨c4, hc4⟩, ⟨c5, hc5⟩, fz, hlt⟩ := cells6' (S5.own.at_ _ (List.mem_cons_of_mem _ (List.mem_append_right _ hres)))
    clear herr S5 hend
    unfold ansVal
    go_wp2_with fail
    refine bodyPost_ret (v := lfVal ⟨2, te, 0⟩) (by simp [results, Tryz.results44, go_sem, ansVal, lfVal, *] <;> rfl) rfl ?_
    rw [hz.out]
    exact ⟨rfl, l, H.out.is, S6.out⟩

end Go.Proofs.YthfngplckbggpaaGreatDoor
