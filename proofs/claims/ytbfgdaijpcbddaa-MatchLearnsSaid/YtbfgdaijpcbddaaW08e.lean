/- What the reference's Update does. No condition. -/
import Derived.Test.YtbfgdaijpcbddaaW08d
set_option linter.unusedSimpArgs false
set_option linter.unusedVariables false
set_option linter.unusedSectionVars false
namespace Go.Proofs.Ytbfgdaijpcbddaa
open Go.RowKit

set_option maxHeartbeats 400000 in
theorem refUpdate08_zero (p n limit : Int) (w : World) (hck : S08.check p n limit = 0) :
    Calls Try.prog 50 #[.agg #[.int .i64 p, .int .i64 n], .int .i64 0, .int .i64 limit] w fun e w' => e = .returned (.tuple #[.agg #[.int .i64 (S08.towards p n 0), .int .i64 (min (n + 1) limit)], .int .i64 0]) ∧ Below w.heap.size w w' := by
  obtain ⟨hl0, hl1, hp0, hp1, hn0, hn1⟩ := S08.check_ok hck
  have htb := Lib.hid (S08.towards_bounds (p := p) (n := n) (target := 0) hp0 hp1 hn0 (by omega) (by omega))
  have H0 := Lib.hid hck
  clear hck
  go_enter Try.func50, Try.ntmps50
  go_wp2_with fail
  refine (refCheck08_any _ _ _ _).mono ?_
  rintro e w1 ⟨rfl, hb1⟩
  rw [H0.out]
  obtain ⟨hc1, hf1⟩ := bcell hb1
  have hz1 : w.heap.size + 1 < w1.heap.size := by have := hb1.size; simp at this; omega
  have hz0 : w.heap.size < w1.heap.size := by omega
  have hB1 : Below w.heap.size w w1 := below_trans (by go_grown) hb1
  have hc10 : w1.cell? ⟨w.heap.size, 0, none⟩ = some (.int .i64 p) := by go_simp
  have hc11 : w1.cell? ⟨w.heap.size, 1, none⟩ = some (.int .i64 n) := by go_simp
  have x1 : IntKind.i64.wrap (2 * n) = 2 * n := IntWalk.i64_in _ (by omega)
  have x2 : IntKind.i64.wrap (2 * n + 3) = 2 * n + 3 := IntWalk.i64_in _ (by omega)
  have x3 : IntKind.i64.wrap (n + 1) = n + 1 := IntWalk.i64_in _ (by omega)
  have x4 : IntKind.i64.wrap (2 * (-p)) = 2 * (-p) := IntWalk.i64_in _ (by omega)
  have hd0 : ¬ (2 * n + 3 = 0) := by omega
  go_wp2
  refine wp_region_steady 16 2 _ _ (keepsCtr w.heap.size p n w1) (by kernel_rfl) (List.take_append_drop 16 _).symm rfl rfl (by kernel_rfl) ⟨(Below.refl _ _).drew, hc10, hc11⟩ (fun Y F hY hF => ?_)
  simp only [List.take_succ_cons, List.take_zero, List.drop_succ_cons, List.drop_zero] at hF ⊢
  repeat
    apply wpSteady_value (by rfl)
    · intro w2 ⟨hB2, hS0, hS1⟩
      go_simp
      with_reducible rfl
    simp only [Act.put, List.setIfInBounds_toArray, List.set_cons_zero, List.set_cons_succ]
  clear hY
  refine hF.out _ (fun K w' hK hS' => ?_)
  clear hF
  obtain ⟨hB, hS0, hS1⟩ := hS'
  obtain ⟨hc2, hf2⟩ := bcell hB
  have hz2 : w.heap.size + 1 < w'.heap.size := Nat.lt_of_lt_of_le hz1 hB.size
  have hB2 : Below w.heap.size w w' := below_trans hB1 hB
  go_wp2
  all_goals (refine OnlyK.mk (hK.out _ _ ?_); clear hK)
  all_goals go_wp2
  all_goals
    refine bodyPost_ret (v := .tuple #[.agg #[.int .i64 (S08.towards p n 0), .int .i64 (min (n + 1) limit)], .int .i64 0]) ?_ rfl ⟨rfl, by go_grown⟩
    have hw : wrap64 (p + (2 * -p).tdiv (2 * n + 3)) = S08.towards p n 0 := by
      have e : p + (2 * -p).tdiv (2 * n + 3) = S08.towards p n 0 := by unfold S08.towards; rw [Int.zero_sub]
      rw [e]; exact IntWalk.wrap64_in _ ⟨by have := htb.out; omega, by have := htb.out; omega⟩
    simp [results, Try.results50, go_sem, hc1, hc2, hz0, hz1, hz2, hw]
    omega

set_option maxHeartbeats 400000 in
theorem refUpdate08_one (p n limit : Int) (w : World) (hck : S08.check p n limit = 0) :
    Calls Try.prog 50 #[.agg #[.int .i64 p, .int .i64 n], .int .i64 1, .int .i64 limit] w fun e w' => e = .returned (.tuple #[.agg #[.int .i64 (S08.towards p n 65535), .int .i64 (min (n + 1) limit)], .int .i64 0]) ∧ Below w.heap.size w w' := by
  obtain ⟨hl0, hl1, hp0, hp1, hn0, hn1⟩ := S08.check_ok hck
  have htb := Lib.hid (S08.towards_bounds (p := p) (n := n) (target := 65535) hp0 hp1 hn0 (by omega) (by omega))
  have H0 := Lib.hid hck
  clear hck
  go_enter Try.func50, Try.ntmps50
  go_wp2_with fail
  refine (refCheck08_any _ _ _ _).mono ?_
  rintro e w1 ⟨rfl, hb1⟩
  rw [H0.out]
  obtain ⟨hc1, hf1⟩ := bcell hb1
  have hz1 : w.heap.size + 1 < w1.heap.size := by have := hb1.size; simp at this; omega
  have hz0 : w.heap.size < w1.heap.size := by omega
  have hB1 : Below w.heap.size w w1 := below_trans (by go_grown) hb1
  have hc10 : w1.cell? ⟨w.heap.size, 0, none⟩ = some (.int .i64 p) := by go_simp
  have hc11 : w1.cell? ⟨w.heap.size, 1, none⟩ = some (.int .i64 n) := by go_simp
  have x1 : IntKind.i64.wrap (2 * n) = 2 * n := IntWalk.i64_in _ (by omega)
  have x2 : IntKind.i64.wrap (2 * n + 3) = 2 * n + 3 := IntWalk.i64_in _ (by omega)
  have x3 : IntKind.i64.wrap (n + 1) = n + 1 := IntWalk.i64_in _ (by omega)
  have x4 : IntKind.i64.wrap (2 * (65535 - p)) = 2 * (65535 - p) := IntWalk.i64_in _ (by omega)
  have hd0 : ¬ (2 * n + 3 = 0) := by omega
  go_wp2
  refine wp_region_steady 16 2 _ _ (keepsCtr w.heap.size p n w1) (by kernel_rfl) (List.take_append_drop 16 _).symm rfl rfl (by kernel_rfl) ⟨(Below.refl _ _).drew, hc10, hc11⟩ (fun Y F hY hF => ?_)
  simp only [List.take_succ_cons, List.take_zero, List.drop_succ_cons, List.drop_zero] at hF ⊢
  repeat
    apply wpSteady_value (by rfl)
    · intro w2 ⟨hB2, hS0, hS1⟩
      go_simp
      with_reducible rfl
    simp only [Act.put, List.setIfInBounds_toArray, List.set_cons_zero, List.set_cons_succ]
  clear hY
  refine hF.out _ (fun K w' hK hS' => ?_)
  clear hF
  obtain ⟨hB, hS0, hS1⟩ := hS'
  obtain ⟨hc2, hf2⟩ := bcell hB
  have hz2 : w.heap.size + 1 < w'.heap.size := Nat.lt_of_lt_of_le hz1 hB.size
  have hB2 : Below w.heap.size w w' := below_trans hB1 hB
  go_wp2
  all_goals (refine OnlyK.mk (hK.out _ _ ?_); clear hK)
  all_goals go_wp2
  all_goals
    refine bodyPost_ret (v := .tuple #[.agg #[.int .i64 (S08.towards p n 65535), .int .i64 (min (n + 1) limit)], .int .i64 0]) ?_ rfl ⟨rfl, by go_grown⟩
    have hw : wrap64 (p + 2 * (65535 - p) / (2 * n + 3)) = S08.towards p n 65535 := by
      have e : p + 2 * (65535 - p) / (2 * n + 3) = S08.towards p n 65535 := by unfold S08.towards; rw [Int.tdiv_eq_ediv_of_nonneg (by omega)]
      rw [e]; exact IntWalk.wrap64_in _ ⟨by have := htb.out; omega, by have := htb.out; omega⟩
    simp [results, Try.results50, go_sem, hc1, hc2, hz0, hz1, hz2, hw]
    omega

theorem refUpdate08_any (p n bit limit : Int) (w : World) :
    Calls Try.prog 50 #[.agg #[.int .i64 p, .int .i64 n], .int .i64 bit, .int .i64 limit] w fun e w' => e = .returned (S08.updateV p n bit limit) ∧ Below w.heap.size w w' := by
  by_cases he : S08.updateE p n bit limit = 0
  · rw [S08.updateV_ok he]
    have hck : S08.check p n limit = 0 := by unfold S08.updateE at he; split at he <;> simp_all
    have hbit : bit = 0 ∨ bit = 1 := by
      unfold S08.updateE at he; rw [if_neg (by omega)] at he; split at he
      · omega
      · omega
    rcases hbit with rfl | rfl
    · exact refUpdate08_zero p n limit w hck
    · exact refUpdate08_one p n limit w hck
  · exact refUpdate08_err p n bit limit w he

end Go.Proofs.Ytbfgdaijpcbddaa
