/- What the reference of layer 9 allows. No condition. -/
import Derived.Test.YtgbjckjfjoiilaaW09a
set_option linter.unusedSimpArgs false
set_option linter.unusedVariables false
set_option linter.unusedSectionVars false
namespace Go.Proofs.Ytgbjckjfjoiilaa
open Go.RowKit

set_option maxHeartbeats 1000000 in
theorem refAllowed09_any (z o : Int) (w : World) : Calls Try.prog 81 #[.int .i64 z, .int .i64 o] w fun e w' => e = .returned (.bool (S09.rallowed z o)) ∧ Below w.heap.size w w' := by
  by_cases hz : 0 ≤ z
  case neg =>
    have e : S09.rallowed z o = false := by simp [S09.rallowed, hz]
    rw [e]
    go_enter Try.func81, Try.ntmps81
    go_wp2
    go_returns
    exact ⟨rfl, by go_grown⟩
  by_cases ho : 0 ≤ o
  case neg =>
    have e : S09.rallowed z o = false := by simp [S09.rallowed, ho]
    rw [e]
    go_enter Try.func81, Try.ntmps81
    go_wp2
    go_returns
    exact ⟨rfl, by go_grown⟩
  obtain ⟨a, b, hmin, hmax⟩ : ∃ a b, min z o = a ∧ max z o = b := ⟨_, _, rfl, rfl⟩
  have hr : S09.rallowed z o = decide (a ≤ 5 ∧ b ≤ S09.bound a 0) := by simp [S09.rallowed, hz, ho, hmin, hmax]
  rw [hr]
  have hmm : z < o ∧ a = z ∧ b = o ∨ z = o ∧ a = z ∧ b = z ∨ o < z ∧ a = o ∧ b = z := by omega
  clear hmin hmax hr
  by_cases ha : a ≤ 5
  case neg =>
    have e : decide (a ≤ 5 ∧ b ≤ S09.bound a 0) = false := by simp [ha]
    rw [e]
    rcases hmm with ⟨h, rfl, rfl⟩ | ⟨rfl, rfl, rfl⟩ | ⟨h, rfl, rfl⟩
    all_goals
      go_enter Try.func81, Try.ntmps81
      go_wp2
      go_returns
      exact ⟨rfl, by go_grown⟩
  have e : decide (a ≤ 5 ∧ b ≤ S09.bound a 0) = decide (b ≤ S09.bound a 0) := by simp [ha]
  rw [e]
  rcases hmm with ⟨h, rfl, rfl⟩ | ⟨rfl, rfl, rfl⟩ | ⟨h, rfl, rfl⟩
  · have h2 : ¬ b < a := by omega
    go_enter Try.func81, Try.ntmps81
    go_wp2_with fail
    refine (refBound09_any _ _).mono ?_
    rintro e w1 ⟨rfl, hb1⟩
    have hB1 : Below w.heap.size w w1 := below_trans (by go_grown) hb1
    go_wp2
    go_returns
    exact ⟨rfl, hB1⟩
  · go_enter Try.func81, Try.ntmps81
    go_wp2_with fail
    refine (refBound09_any _ _).mono ?_
    rintro e w1 ⟨rfl, hb1⟩
    have hB1 : Below w.heap.size w w1 := below_trans (by go_grown) hb1
    go_wp2
    go_returns
    exact ⟨rfl, hB1⟩
  · have h2 : ¬ b < a := by omega
    go_enter Try.func81, Try.ntmps81
    go_wp2_with fail
    refine (refBound09_any _ _).mono ?_
    rintro e w1 ⟨rfl, hb1⟩
    have hB1 : Below w.heap.size w w1 := below_trans (by go_grown) hb1
    go_wp2
    go_returns
    exact ⟨rfl, hB1⟩
end Go.Proofs.Ytgbjckjfjoiilaa
