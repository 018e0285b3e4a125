/- What counter.Update does. No condition. -/
import Derived.Test.YtbfgdaijpcbddaaW08c
set_option linter.unusedSimpArgs false
set_option linter.unusedVariables false
set_option linter.unusedSectionVars false
namespace Go.Proofs.Ytbfgdaijpcbddaa
open Go.RowKit

set_option maxHeartbeats 400000 in
theorem update08_err (p n bit limit : Int) (w : World) (he : S08.updateE p n bit limit ≠ 0) :
    Calls Try.prog 57 #[.agg #[.int .i64 p, .int .i64 n], .int .i64 bit, .int .i64 limit] w fun e w' => e = .returned (S08.updateV p n bit limit) ∧ Below w.heap.size w w' := by
  rw [S08.updateV_err he]
  by_cases h0 : S08.check p n limit = 0
  · have hu : S08.updateE p n bit limit = 1 := by unfold S08.updateE at he ⊢; rw [if_neg (by omega)] at he ⊢; split at he <;> simp_all
    have hb : bit ≠ 0 ∧ bit ≠ 1 := by unfold S08.updateE at he; rw [if_neg (by omega)] at he; split at he <;> simp_all
    have b0 : (bit == 0) = false := by simp [hb.1]
    have b1 : (bit == 1) = false := by simp [hb.2]
    rw [hu]
    have H0 := Lib.hid h0
    clear h0 hu hb he
    go_enter Try.func57, Try.ntmps57
    go_wp2_with fail
    refine (check08_any _ _ _ _).mono ?_
    rintro e w1 ⟨rfl, hb1⟩
    rw [H0.out]
    obtain ⟨hc1, hf1⟩ := bcell hb1
    have hz1 : w.heap.size + 1 < w1.heap.size := by have := hb1.size; simp at this; omega
    have hB1 : Below w.heap.size w w1 := below_trans (by go_grown) hb1
    go_wp2
    exact bodyPost_ret (by simp [results, Try.results57, go_sem, hc1, hz1]) rfl ⟨rfl, by go_grown⟩
  · have hu : S08.updateE p n bit limit = S08.check p n limit := by unfold S08.updateE; rw [if_pos h0]
    have b0 : (S08.check p n limit != 0) = true := by simp [h0]
    rw [hu]
    clear hu he h0
    go_enter Try.func57, Try.ntmps57
    go_wp2_with fail
    refine (check08_any _ _ _ _).mono ?_
    rintro e w1 ⟨rfl, hb1⟩
    obtain ⟨hc1, hf1⟩ := bcell hb1
    have hz1 : w.heap.size + 1 < w1.heap.size := by have := hb1.size; simp at this; omega
    have hB1 : Below w.heap.size w w1 := below_trans (by go_grown) hb1
    go_wp2
    exact bodyPost_ret (by simp [results, Try.results57, go_sem, hc1, hz1]) rfl ⟨rfl, by go_grown⟩

set_option maxHeartbeats 400000 in
theorem update08_ok (p n bit limit : Int) (w : World) (he : S08.updateE p n bit limit = 0) :
    Calls Try.prog 57 #[.agg #[.int .i64 p, .int .i64 n], .int .i64 bit, .int .i64 limit] w fun e w' => e = .returned (S08.updateV p n bit limit) ∧ Below w.heap.size w w' := by
  rw [S08.updateV_ok he]
  have hck : S08.check p n limit = 0 := by unfold S08.updateE at he; split at he <;> simp_all
  obtain ⟨hl0, hl1, hp0, hp1, hn0, hn1⟩ := S08.check_ok hck
  have hbit : bit = 0 ∨ bit = 1 := by
    unfold S08.updateE at he; rw [if_neg (by omega)] at he; split at he
    · omega
    · omega
  have H0 := Lib.hid hck
  clear hck he
  rcases hbit with rfl | rfl
  · have hst : S08.step p n 0 = S08.towards p n 0 := rfl
    rw [hst]
    clear hst
    go_enter Try.func57, Try.ntmps57
    go_wp2_with fail
    refine (check08_any _ _ _ _).mono ?_
    rintro e w1 ⟨rfl, hb1⟩
    rw [H0.out]
    obtain ⟨hc1, hf1⟩ := bcell hb1
    have hz1 : w.heap.size + 1 < w1.heap.size := by have := hb1.size; simp at this; omega
    have hB1 : Below w.heap.size w w1 := below_trans (by go_grown) hb1
    go_wp2_with fail
    refine (zero_any p n w1.heap.size _ hp0 hp1 hn0 (by omega) (by go_simp) (by go_simp) (by go_simp)).mono ?_
    rintro e w2 ⟨rfl, w3, hb3, hw2⟩
    have hz0 : w.heap.size < w1.heap.size := by omega
    have hne : ¬ (w1.heap.size = w.heap.size + 1) := by omega
    have hz3 : w1.heap.size < w3.heap.size := by have := hb3.size; simp at this; omega
    have hB3 : Below w.heap.size w w3 := below_trans (by go_grown) hb3
    obtain ⟨hc3, hf3⟩ := bcell hb3
    subst hw2
    go_wp2
    all_goals (refine bodyPost_ret (v := .tuple #[.agg #[.int .i64 (S08.towards p n 0), .int .i64 (min (n + 1) limit)], .int .i64 0]) ?_ rfl ⟨rfl, by go_grown⟩; simp [results, Try.results57, go_sem, hc3, hc1, hz0, hz1, hz3, hne]; omega)
  · have hst : S08.step p n 1 = S08.towards p n 65535 := rfl
    rw [hst]
    clear hst
    go_enter Try.func57, Try.ntmps57
    go_wp2_with fail
    refine (check08_any _ _ _ _).mono ?_
    rintro e w1 ⟨rfl, hb1⟩
    rw [H0.out]
    obtain ⟨hc1, hf1⟩ := bcell hb1
    have hz1 : w.heap.size + 1 < w1.heap.size := by have := hb1.size; simp at this; omega
    have hB1 : Below w.heap.size w w1 := below_trans (by go_grown) hb1
    go_wp2_with fail
    refine (rise_any p n w1.heap.size _ hp0 hp1 hn0 (by omega) (by go_simp) (by go_simp) (by go_simp)).mono ?_
    rintro e w2 ⟨rfl, w3, hb3, hw2⟩
    have hz0 : w.heap.size < w1.heap.size := by omega
    have hne : ¬ (w1.heap.size = w.heap.size + 1) := by omega
    have hz3 : w1.heap.size < w3.heap.size := by have := hb3.size; simp at this; omega
    have hB3 : Below w.heap.size w w3 := below_trans (by go_grown) hb3
    obtain ⟨hc3, hf3⟩ := bcell hb3
    subst hw2
    go_wp2
    all_goals (refine bodyPost_ret (v := .tuple #[.agg #[.int .i64 (S08.towards p n 65535), .int .i64 (min (n + 1) limit)], .int .i64 0]) ?_ rfl ⟨rfl, by go_grown⟩; simp [results, Try.results57, go_sem, hc3, hc1, hz0, hz1, hz3, hne]; omega)

theorem update08_any (p n bit limit : Int) (w : World) :
    Calls Try.prog 57 #[.agg #[.int .i64 p, .int .i64 n], .int .i64 bit, .int .i64 limit] w fun e w' => e = .returned (S08.updateV p n bit limit) ∧ Below w.heap.size w w' := by
  by_cases he : S08.updateE p n bit limit = 0
  · exact update08_ok p n bit limit w he
  · exact update08_err p n bit limit w he

/-! The reference. -/
set_option maxHeartbeats 400000 in
theorem refUpdate08_err (p n bit limit : Int) (w : World) (he : S08.updateE p n bit limit ≠ 0) :
    Calls Try.prog 50 #[.agg #[.int .i64 p, .int .i64 n], .int .i64 bit, .int .i64 limit] w fun e w' => e = .returned (S08.updateV p n bit limit) ∧ Below w.heap.size w w' := by
  rw [S08.updateV_err he]
  by_cases h0 : S08.check p n limit = 0
  · have hu : S08.updateE p n bit limit = 1 := by unfold S08.updateE at he ⊢; rw [if_neg (by omega)] at he ⊢; split at he <;> simp_all
    have hb : bit ≠ 0 ∧ bit ≠ 1 := by unfold S08.updateE at he; rw [if_neg (by omega)] at he; split at he <;> simp_all
    have b0 : (bit != 0) = true := by simp [hb.1]
    have b1 : (bit != 1) = true := by simp [hb.2]
    rw [hu]
    have H0 := Lib.hid h0
    clear h0 hu hb he
    go_enter Try.func50, Try.ntmps50
    go_wp2_with fail
    refine (refCheck08_any _ _ _ _).mono ?_
    rintro e w1 ⟨rfl, hb1⟩
    rw [H0.out]
    obtain ⟨hc1, hf1⟩ := bcell hb1
    have hz1 : w.heap.size + 1 < w1.heap.size := by have := hb1.size; simp at this; omega
    have hB1 : Below w.heap.size w w1 := below_trans (by go_grown) hb1
    go_wp2
    exact bodyPost_ret (by simp [results, Try.results50, go_sem, hc1, hz1]) rfl ⟨rfl, by go_grown⟩
  · have hu : S08.updateE p n bit limit = S08.check p n limit := by unfold S08.updateE; rw [if_pos h0]
    have b0 : (S08.check p n limit != 0) = true := by simp [h0]
    rw [hu]
    clear hu he h0
    go_enter Try.func50, Try.ntmps50
    go_wp2_with fail
    refine (refCheck08_any _ _ _ _).mono ?_
    rintro e w1 ⟨rfl, hb1⟩
    obtain ⟨hc1, hf1⟩ := bcell hb1
    have hz1 : w.heap.size + 1 < w1.heap.size := by have := hb1.size; simp at this; omega
    have hB1 : Below w.heap.size w w1 := below_trans (by go_grown) hb1
    go_wp2
    exact bodyPost_ret (by simp [results, Try.results50, go_sem, hc1, hz1]) rfl ⟨rfl, by go_grown⟩

end Go.Proofs.Ytbfgdaijpcbddaa
