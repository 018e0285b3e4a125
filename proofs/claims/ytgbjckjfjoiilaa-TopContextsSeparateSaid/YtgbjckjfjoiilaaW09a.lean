/- What the small functions of layer 9 (bithistory) give. No condition. -/
import Derived.Test.YtgbjckjfjoiilaaRows
import Derived.Test.YtgbjckjfjoiilaaBase2
import Derived.Test.YtgbjckjfjoiilaaSpec09
import Derived.WalkKit
import Derived.WalkSpells
import Derived.WalkLawsBesides
import Derived.Handy
import Derived.Deep.Light
import Derived.Lib.Hide
set_option linter.unusedSimpArgs false
set_option linter.unusedVariables false
set_option linter.unusedSectionVars false
namespace Go.Proofs.Ytgbjckjfjoiilaa
open Go.RowKit

set_option maxHeartbeats 400000 in
theorem bound09_any (n : Int) (w : World) : Calls Try.prog 67 #[.int .i64 n] w fun e w' => e = .returned (.int .i64 (S09.bound n (-1))) ∧ Below w.heap.size w w' := by
  by_cases hin : n = 0 ∨ n = 1 ∨ n = 2 ∨ n = 3 ∨ n = 4 ∨ n = 5
  · rcases hin with rfl | rfl | rfl | rfl | rfl | rfl
    all_goals (go_enter Try.func67, Try.ntmps67; go_wp2; go_returns; exact ⟨rfl, by go_grown⟩)
  · have h0 : ¬ n = 0 := by omega
    have h1 : ¬ n = 1 := by omega
    have h2 : ¬ n = 2 := by omega
    have h3 : ¬ n = 3 := by omega
    have h4 : ¬ n = 4 := by omega
    have h5 : ¬ n = 5 := by omega
    have e : S09.bound n (-1) = (-1) := by unfold S09.bound; rw [if_neg h0, if_neg h1, if_neg h2, if_neg h3, if_neg h4, if_neg h5]
    rw [e]
    go_enter Try.func67, Try.ntmps67
    go_wp2
    go_returns
    exact ⟨rfl, by go_grown⟩

set_option maxHeartbeats 400000 in
theorem refBound09_any (n : Int) (w : World) : Calls Try.prog 82 #[.int .i64 n] w fun e w' => e = .returned (.int .i64 (S09.bound n 0)) ∧ Below w.heap.size w w' := by
  by_cases hin : n = 0 ∨ n = 1 ∨ n = 2 ∨ n = 3 ∨ n = 4 ∨ n = 5
  · rcases hin with rfl | rfl | rfl | rfl | rfl | rfl
    all_goals (go_enter Try.func82, Try.ntmps82; go_wp2; go_returns; exact ⟨rfl, by go_grown⟩)
  · have h0 : ¬ n = 0 := by omega
    have h1 : ¬ n = 1 := by omega
    have h2 : ¬ n = 2 := by omega
    have h3 : ¬ n = 3 := by omega
    have h4 : ¬ n = 4 := by omega
    have h5 : ¬ n = 5 := by omega
    have e : S09.bound n 0 = 0 := by unfold S09.bound; rw [if_neg h0, if_neg h1, if_neg h2, if_neg h3, if_neg h4, if_neg h5]
    rw [e]
    go_enter Try.func82, Try.ntmps82
    go_wp2
    go_returns
    exact ⟨rfl, by go_grown⟩

set_option maxHeartbeats 400000 in
theorem fade09_any (n : Int) (w : World) (h0 : 0 ≤ n) (h1 : n ≤ 1000) : Calls Try.prog 66 #[.int .i64 n] w fun e w' => e = .returned (.int .i64 (S09.fade n)) ∧ Below w.heap.size w w' := by
  by_cases h2 : 2 < n
  · obtain ⟨m, rfl⟩ : ∃ m : Nat, n = (m : Int) + 2 := ⟨(n - 2).toNat, by omega⟩
    have e1 : (((m : Int) + 2 - 2)).tdiv 3 = ((m / 3 : Nat) : Int) := by rw [show (m : Int) + 2 - 2 = (m : Int) by omega]; rfl
    have w1 : IntKind.i64.wrap ((m : Int) + 2 - 2) = (m : Int) + 2 - 2 := IntWalk.i64_in _ (by omega)
    have w2 : IntKind.i64.wrap (((m : Int) + 2 - 2).tdiv 3) = ((m : Int) + 2 - 2).tdiv 3 := IntWalk.i64_in _ (by rw [e1]; omega)
    have w3 : IntKind.i64.wrap (2 + ((m : Int) + 2 - 2).tdiv 3) = 2 + ((m : Int) + 2 - 2).tdiv 3 := IntWalk.i64_in _ (by rw [e1]; omega)
    go_enter Try.func66, Try.ntmps66
    go_wp2
    go_returns
    refine ⟨ret_i64 ?_, by go_grown⟩
    try go_light
    unfold S09.fade
    rw [if_pos h2]
    first | rfl | (simp only [w1, w2, w3]) | omega
  · go_enter Try.func66, Try.ntmps66
    go_wp2
    go_returns
    refine ⟨ret_i64 ?_, by go_grown⟩
    try go_light
    have h3 : ¬ 2 < n := by omega
    unfold S09.fade
    rw [if_neg h3]

set_option maxHeartbeats 400000 in
theorem allowed09_any (z o : Int) (w : World) : Calls Try.prog 74 #[.int .i64 z, .int .i64 o] w fun e w' => e = .returned (.bool (S09.allowed z o)) ∧ Below w.heap.size w w' := by
  rcases (show z < o ∨ z = o ∨ o < z by omega) with h | h | h
  · have e : S09.allowed z o = decide (o ≤ S09.bound z (-1)) := by unfold S09.allowed; rw [Int.min_eq_left (by omega), Int.max_eq_right (by omega)]
    have h2 : ¬ o < z := by omega
    have h3 : z ≤ o := by omega
    rw [e]
    go_enter Try.func74, Try.ntmps74
    go_wp2_with fail
    refine (bound09_any _ _).mono ?_
    rintro e w1 ⟨rfl, hb1⟩
    have hB1 : Below w.heap.size w w1 := below_trans (by go_grown) hb1
    go_wp2
    go_returns
    exact ⟨rfl, hB1⟩
  · subst h
    have e : S09.allowed z z = decide (z ≤ S09.bound z (-1)) := by unfold S09.allowed; rw [Int.min_eq_left (by omega), Int.max_eq_right (by omega)]
    rw [e]
    go_enter Try.func74, Try.ntmps74
    go_wp2_with fail
    refine (bound09_any _ _).mono ?_
    rintro e w1 ⟨rfl, hb1⟩
    have hB1 : Below w.heap.size w w1 := below_trans (by go_grown) hb1
    go_wp2
    go_returns
    exact ⟨rfl, hB1⟩
  · have e : S09.allowed z o = decide (z ≤ S09.bound o (-1)) := by unfold S09.allowed; rw [Int.min_eq_right (by omega), Int.max_eq_left (by omega)]
    have h2 : ¬ z < o := by omega
    have h3 : o ≤ z := by omega
    rw [e]
    go_enter Try.func74, Try.ntmps74
    go_wp2_with fail
    refine (bound09_any _ _).mono ?_
    rintro e w1 ⟨rfl, hb1⟩
    have hB1 : Below w.heap.size w w1 := below_trans (by go_grown) hb1
    go_wp2
    go_returns
    exact ⟨rfl, hB1⟩
end Go.Proofs.Ytgbjckjfjoiilaa
