/-
  nearhandlaw20: ExecNames (printed by gen_law20.py).
-/
import Derived.Test.YthfngplckbggpaaGreatDoorPERun
set_option linter.unusedVariables false
set_option linter.unusedSimpArgs false
namespace Go.Proofs.YthfngplckbggpaaGreatDoor
open Go Go.RowKit

def spPINGx : Sp := ⟨⟨#[80, 73, 78, 71]⟩, 3, 1, 2, 0, 0, 0⟩
theorem enames_1 : wcheck [⟨#[80, 73, 78, 71]⟩] = (spPINGx, ByteArray.empty) := by kernel_rfl
theorem enames_2 : wcheck [⟨#[68, 69, 76]⟩] = (zeroSp, ⟨#[69, 82, 82, 32, 119, 114, 111, 110, 103, 32, 110, 117, 109, 98, 101, 114, 32, 111, 102, 32, 97, 114, 103, 117, 109, 101, 110, 116, 115, 32, 102, 111, 114, 32, 100, 101, 108]⟩) := by kernel_rfl
theorem enames_3 : wcheck [⟨#[102, 108, 117, 115, 104, 97, 108, 108]⟩] = (spFLUSHALL, ByteArray.empty) := by kernel_rfl
theorem enames_4 : isKeys (wcheck [⟨#[103, 101, 116]⟩, kk]) = true := by kernel_rfl
theorem enames_5 : isKeys (wcheck [⟨#[80, 73, 78, 71]⟩]) = false := by kernel_rfl
theorem enames_6 : isKeys (wcheck [⟨#[71, 69, 84]⟩]) = false := by kernel_rfl

set_option maxRecDepth 100000 in
set_option maxHeartbeats 8000000 in
theorem enames_any {w0 w : World} {r : Hp} (hS : Step w0 [] w r) (hG : Glob w0) :
    Calls Tryz.prog 3 #[] w (fun e w' => e = .returned (.bool true) ∧ Step w0 [] w' r) := by
  have halive := hid (ealive_any hS hG)
  have hnew : ∀ w', Hid (Step w0 [] w' r → _) := fun w' => hid fun h => snew_any h 10000
  replace hG := hid hG
  clear hS
  go_enter Tryz.func3, Tryz.ntmps3
  go_wp2_with fail
  refine halive.out.mono ?_
  rintro e wa ⟨rfl, S0⟩
  have hnew0 := hid ((hnew wa).out S0)
  clear halive hnew S0
  go_wp2_with fail
  refine hnew0.out.mono ?_
  rintro e w1 ⟨sb, l1, rfl, hX1, S1⟩
  clear hnew0
  rw [e_new] at hX1
  have hdo : Calls Tryz.prog 10 #[ptr sb, .int .i64 0, .slice (some ⟨w1.heap.size, 0, none⟩) 1 1] (w1.alloc (WsObj [⟨#[80, 73, 78, 71]⟩])) (RunEnd w0 (r) sb (eNo []) 2 ⟨#[69, 82, 82, 32, 117, 110, 107, 110, 111, 119, 110, 32, 99, 111, 109, 109, 97, 110, 100]⟩ 0 []) := by
    have q := xrun_other S1 hG.out hX1 (eNo_ok _ (by decide)) (by decide) (by decide) spPINGx enames_1 (by kernel_rfl) 0
    skip
    exact q
  replace hdo := hid hdo
  clear S1 hX1
  go_wp2_with fail
  refine hdo.out.mono ?_
  rintro e w2 ⟨a2, c2, ev2, xl2, el2, l2, rfl, hxl2, hev2, hX2, S2⟩
  clear hdo hxl2
  replace S2 := S2.told
  replace hX2 : IsStore l2 sb (eNo []) := hX2
  clear hev2
  unfold ansVal
  go_upto_region 5 with fail
  have S2' := S2.alloc (ValObj 2 ⟨#[69, 82, 82, 32, 117, 110, 107, 110, 111, 119, 110, 32, 99, 111, 109, 109, 97, 110, 100]⟩ 0 (.slice a2 0 c2))
  generalize hw : w2.alloc _ = w2'
  replace S2' : Step w0 [] w2' _ := hw ▸ S2'
  clear hw S2
  generalize w2.heap.size = xa at S2' ⊢
  replace S2' := S2'.permR (l2 := l2 ++ ((xa, ValObj 2 ⟨#[69, 82, 82, 32, 117, 110, 107, 110, 111, 119, 110, 32, 99, 111, 109, 109, 97, 110, 100]⟩ 0 (.slice a2 0 c2)) :: (r))) (perm_by fun f => by simp only [List.map_append, List.sum_append, List.map_cons, List.sum_cons, List.map_nil, List.sum_nil]; omega)
  have hdo : Calls Tryz.prog 10 #[ptr sb, .int .i64 0, .slice (some ⟨w2'.heap.size, 0, none⟩) 1 1] (w2'.alloc (WsObj [⟨#[68, 69, 76]⟩])) (RunEnd w0 ((xa, ValObj 2 ⟨#[69, 82, 82, 32, 117, 110, 107, 110, 111, 119, 110, 32, 99, 111, 109, 109, 97, 110, 100]⟩ 0 (.slice a2 0 c2)) :: (r)) sb (eNo []) 2 ⟨#[69, 82, 82, 32, 119, 114, 111, 110, 103, 32, 110, 117, 109, 98, 101, 114, 32, 111, 102, 32, 97, 114, 103, 117, 109, 101, 110, 116, 115, 32, 102, 111, 114, 32, 100, 101, 108]⟩ 0 []) := by
    have q := xrun_wrong S2' hG.out hX2 (eNo_ok _ (by decide)) (by decide) (by decide) zeroSp enames_2 (by decide) 0
    skip
    exact q
  replace hdo := hid hdo
  clear S2' hX2
  go_wp2_with fail
  refine hdo.out.mono ?_
  rintro e w3 ⟨a3, c3, ev3, xl3, el3, l3, rfl, hxl3, hev3, hX3, S3⟩
  clear hdo hxl3
  replace S3 := S3.told
  replace hX3 : IsStore l3 sb (eNo []) := hX3
  clear hev3
  unfold ansVal
  go_upto_region 6 with fail
  have S3' := S3.alloc (ValObj 2 ⟨#[69, 82, 82, 32, 119, 114, 111, 110, 103, 32, 110, 117, 109, 98, 101, 114, 32, 111, 102, 32, 97, 114, 103, 117, 109, 101, 110, 116, 115, 32, 102, 111, 114, 32, 100, 101, 108]⟩ 0 (.slice a3 0 c3))
  generalize hw : w3.alloc _ = w3'
  replace S3' : Step w0 [] w3' _ := hw ▸ S3'
  clear hw S3
  generalize w3.heap.size = xb at S3' ⊢
  replace S3' := S3'.permR (l2 := l3 ++ ((xb, ValObj 2 ⟨#[69, 82, 82, 32, 119, 114, 111, 110, 103, 32, 110, 117, 109, 98, 101, 114, 32, 111, 102, 32, 97, 114, 103, 117, 109, 101, 110, 116, 115, 32, 102, 111, 114, 32, 100, 101, 108]⟩ 0 (.slice a3 0 c3)) :: ((xa, ValObj 2 ⟨#[69, 82, 82, 32, 117, 110, 107, 110, 111, 119, 110, 32, 99, 111, 109, 109, 97, 110, 100]⟩ 0 (.slice a2 0 c2)) :: (r)))) (perm_by fun f => by simp only [List.map_append, List.sum_append, List.map_cons, List.sum_cons, List.map_nil, List.sum_nil]; omega)
  have hdo : Calls Tryz.prog 10 #[ptr sb, .int .i64 0, .slice (some ⟨w3'.heap.size, 0, none⟩) 1 1] (w3'.alloc (WsObj [⟨#[102, 108, 117, 115, 104, 97, 108, 108]⟩])) (RunEnd w0 ((xb, ValObj 2 ⟨#[69, 82, 82, 32, 119, 114, 111, 110, 103, 32, 110, 117, 109, 98, 101, 114, 32, 111, 102, 32, 97, 114, 103, 117, 109, 101, 110, 116, 115, 32, 102, 111, 114, 32, 100, 101, 108]⟩ 0 (.slice a3 0 c3)) :: ((xa, ValObj 2 ⟨#[69, 82, 82, 32, 117, 110, 107, 110, 111, 119, 110, 32, 99, 111, 109, 109, 97, 110, 100]⟩ 0 (.slice a2 0 c2)) :: (r))) sb (eNo [(5, ByteArray.empty)]) 1 ⟨#[79, 75]⟩ 0 []) := by
    have q := xrun_FLUSHALL S3' hG.out hX3 (eNo_ok _ (by decide)) (by decide) enames_3 0 (by decide)
    skip
    exact q
  replace hdo := hid hdo
  clear S3' hX3
  go_wp2_with fail
  refine hdo.out.mono ?_
  rintro e w4 ⟨a4, c4, ev4, xl4, el4, l4, rfl, hxl4, hev4, hX4, S4⟩
  clear hdo hxl4
  obtain ⟨g, cap, rest, rfl, rfl⟩ := evOne hev4 (a := .int .i64 5) (b := .string ByteArray.empty) rfl
  clear hev4 hX4
  unfold ansVal
  go_upto_region 7 with fail
  have S4' := S4.alloc (ValObj 1 ⟨#[79, 75]⟩ 0 (.slice a4 0 c4))
  generalize hw : w4.alloc _ = w5
  replace S4' : Step w0 [] w5 _ := hw ▸ S4'
  clear hw S4
  generalize w4.heap.size = xc at S4' ⊢
  have hgm := S4'.own.at_ (g, .cells ([Value.int .i64 5, Value.string ByteArray.empty] ++ rest).toArray 33 (0, 0)) (by simp)
  have g0 : w5.cell? ⟨g, 0, none⟩ = some (.int .i64 5) := by rw [cells_get hgm]; rfl
  have xa0 : w5.cell? ⟨xa, 0, none⟩ = some (.int .i64 2) := cells_get (S4'.own.at_ (xa, ValObj 2 ⟨#[69, 82, 82, 32, 117, 110, 107, 110, 111, 119, 110, 32, 99, 111, 109, 109, 97, 110, 100]⟩ 0 (.slice a2 0 c2)) (by simp)) 0
  have xa1 : w5.cell? ⟨xa, 1, none⟩ = some (.string ⟨#[69, 82, 82, 32, 117, 110, 107, 110, 111, 119, 110, 32, 99, 111, 109, 109, 97, 110, 100]⟩) := cells_get (S4'.own.at_ (xa, ValObj 2 ⟨#[69, 82, 82, 32, 117, 110, 107, 110, 111, 119, 110, 32, 99, 111, 109, 109, 97, 110, 100]⟩ 0 (.slice a2 0 c2)) (by simp)) 1
  have xb1 : w5.cell? ⟨xb, 1, none⟩ = some (.string ⟨#[69, 82, 82, 32, 119, 114, 111, 110, 103, 32, 110, 117, 109, 98, 101, 114, 32, 111, 102, 32, 97, 114, 103, 117, 109, 101, 110, 116, 115, 32, 102, 111, 114, 32, 100, 101, 108]⟩) := cells_get (S4'.own.at_ (xb, ValObj 2 ⟨#[69, 82, 82, 32, 119, 114, 111, 110, 103, 32, 110, 117, 109, 98, 101, 114, 32, 111, 102, 32, 97, 114, 103, 117, 109, 101, 110, 116, 115, 32, 102, 111, 114, 32, 100, 101, 108]⟩ 0 (.slice a3 0 c3)) (by simp)) 1
  have xc1 : w5.cell? ⟨xc, 1, none⟩ = some (.string ⟨#[79, 75]⟩) := cells_get (S4'.own.at_ (xc, ValObj 1 ⟨#[79, 75]⟩ 0 (.slice a4 0 c4)) (by simp)) 1
  replace S4' := S4'.pick (l2 := r) (m := (xc, ValObj 1 ⟨#[79, 75]⟩ 0 (.slice a4 0 c4)) :: (l4 ++ (xl4 ++ [(g, .cells ([Value.int .i64 5, Value.string ByteArray.empty] ++ rest).toArray 33 (0, 0)), (xb, ValObj 2 ⟨#[69, 82, 82, 32, 119, 114, 111, 110, 103, 32, 110, 117, 109, 98, 101, 114, 32, 111, 102, 32, 97, 114, 103, 117, 109, 101, 110, 116, 115, 32, 102, 111, 114, 32, 100, 101, 108]⟩ 0 (.slice a3 0 c3)), (xa, ValObj 2 ⟨#[69, 82, 82, 32, 117, 110, 107, 110, 111, 119, 110, 32, 99, 111, 109, 109, 97, 110, 100]⟩ 0 (.slice a2 0 c2))]))) (perm_by fun f => by simp only [List.map_append, List.sum_append, List.map_cons, List.sum_cons, List.map_nil, List.sum_nil]; omega)
  clear hgm
  have h1 := is_words (c := ⟨#[103, 101, 116]⟩) (ws := [kk]) S4' (by decide) (by decide)
  rw [enames_4] at h1
  have h1' : Calls Tryz.prog 11 #[.slice (some ⟨w5.heap.size, 0, none⟩) 2 2] (w5.alloc (WsObj [⟨#[103, 101, 116]⟩, kk])) _ := h1
  replace h1' := hid h1'
  clear h1 S4'
  go_wp2_with fail
  refine h1'.out.mono ?_
  rintro e w6 ⟨rfl, S6⟩
  have h1 := is_words (c := ⟨#[80, 73, 78, 71]⟩) (ws := []) S6 (by decide) (by decide)
  rw [enames_5] at h1
  have h2' : Calls Tryz.prog 11 #[.slice (some ⟨w6.heap.size, 0, none⟩) 1 1] (w6.alloc (WsObj [⟨#[80, 73, 78, 71]⟩])) _ := h1
  replace h2' := hid h2'
  clear h1 h1' S6
  go_wp2_with fail
  refine h2'.out.mono ?_
  rintro e w7 ⟨rfl, S7⟩
  have h1 := is_words (c := ⟨#[71, 69, 84]⟩) (ws := []) S7 (by decide) (by decide)
  rw [enames_6] at h1
  have h3' : Calls Tryz.prog 11 #[.slice (some ⟨w7.heap.size, 0, none⟩) 1 1] (w7.alloc (WsObj [⟨#[71, 69, 84]⟩])) _ := h1
  replace h3' := hid h3'
  clear h1 h2' S7
  go_wp2_with fail
  refine h3'.out.mono ?_
  rintro e w8 ⟨rfl, S8⟩
  have h4' := hid (is_nil S8 none 0)
  clear h3' S8
  go_wp2_with fail
  refine h4'.out.mono ?_
  rintro e w9 ⟨rfl, S9⟩
  replace S9 := hid S9
  clear h4'
  go_wp2_with fail
  go_ret
  exact ⟨rfl, S9.out⟩

end Go.Proofs.YthfngplckbggpaaGreatDoor
