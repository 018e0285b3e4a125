/- What the reference of layer 9 holds for a history. No condition. -/
import Derived.Test.YtgbjckjfjoiilaaW09b
set_option linter.unusedSimpArgs false
set_option linter.unusedVariables false
set_option linter.unusedSectionVars false
namespace Go.Proofs.Ytgbjckjfjoiilaa
open Go.RowKit

theorem S09.bound_le (a other : Int) (h : other ≤ 30) : S09.bound a other ≤ 30 := by
  unfold S09.bound
  (repeat' split) <;> omega
theorem S09.rallowed_bounds {z o : Int} (h : S09.rallowed z o = true) : 0 ≤ z ∧ z ≤ 30 ∧ 0 ≤ o ∧ o ≤ 30 := by
  have h' := of_decide_eq_true h
  have := S09.bound_le (min z o) 0 (by omega)
  omega

set_option maxHeartbeats 1000000 in
theorem refIs09_any (z o l : Int) (w : World) : Calls Try.prog 80 #[.int .i64 z, .int .i64 o, .int .i64 l] w fun e w' => e = .returned (.bool (S09.is z o l)) ∧ Below w.heap.size w w' := by
  cases ha : S09.rallowed z o with
  | false =>
    have e : S09.is z o l = false := by simp [S09.is, ha]
    rw [e]
    go_enter Try.func80, Try.ntmps80
    go_wp2_with fail
    refine (refAllowed09_any _ _ _).mono ?_
    rw [ha]
    rintro e w1 ⟨rfl, hb1⟩
    have hB1 : Below w.heap.size w w1 := below_trans (by go_grown) hb1
    go_wp2
    go_returns
    exact ⟨rfl, hB1⟩
  | true =>
    obtain ⟨h0, h1, h2, h3⟩ := S09.rallowed_bounds ha
    have hw : IntKind.i64.wrap (z + o) = z + o := IntWalk.i64_in _ (by omega)
    by_cases hs : z + o = 0
    · have e : S09.is z o l = decide (l = 0) := by simp [S09.is, ha, hs]
      rw [e]
      go_enter Try.func80, Try.ntmps80
      go_wp2_with fail
      refine (refAllowed09_any _ _ _).mono ?_
      rw [ha]
      rintro e w1 ⟨rfl, hb1⟩
      have hB1 : Below w.heap.size w w1 := below_trans (by go_grown) hb1
      go_wp2
      go_returns
      exact ⟨ret_bool (by first | rfl | simp), hB1⟩
    · have e : S09.is z o l = ((decide (l = 0) && decide (0 < z)) || (decide (l = 1) && decide (0 < o))) := by simp [S09.is, ha, hs]
      rw [e]
      by_cases hl0 : l = 0
      · subst hl0
        go_enter Try.func80, Try.ntmps80
        go_wp2_with fail
        refine (refAllowed09_any _ _ _).mono ?_
        rw [ha]
        rintro e w1 ⟨rfl, hb1⟩
        have hB1 : Below w.heap.size w w1 := below_trans (by go_grown) hb1
        go_wp2
        all_goals (go_returns; exact ⟨ret_bool (by first | rfl | simp_all), hB1⟩)
      · by_cases hl1 : l = 1
        · subst hl1
          go_enter Try.func80, Try.ntmps80
          go_wp2_with fail
          refine (refAllowed09_any _ _ _).mono ?_
          rw [ha]
          rintro e w1 ⟨rfl, hb1⟩
          have hB1 : Below w.heap.size w w1 := below_trans (by go_grown) hb1
          go_wp2
          all_goals (go_returns; exact ⟨ret_bool (by first | rfl | simp_all), hB1⟩)
        · go_enter Try.func80, Try.ntmps80
          go_wp2_with fail
          refine (refAllowed09_any _ _ _).mono ?_
          rw [ha]
          rintro e w1 ⟨rfl, hb1⟩
          have hB1 : Below w.heap.size w w1 := below_trans (by go_grown) hb1
          go_wp2
          all_goals (go_returns; exact ⟨ret_bool (by first | rfl | simp_all), hB1⟩)
end Go.Proofs.Ytgbjckjfjoiilaa
