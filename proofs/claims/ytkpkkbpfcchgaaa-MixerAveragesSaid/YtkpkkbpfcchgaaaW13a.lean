/- Tests of weights and inputs (layer 13). No condition. -/
import Derived.Test.YtkpkkbpfcchgaaaIdx
import Derived.Test.YtkpkkbpfcchgaaaW06s
import Derived.Test.YtkpkkbpfcchgaaaSpec13
set_option linter.unusedSimpArgs false
set_option linter.unusedVariables false
set_option linter.unusedSectionVars false
namespace Go.Proofs.Ytkpkkbpfcchgaaa
open Go.RowKit

theorem enterHeavy (args : Array Value) (w : World) : (callFunc 28 args).run Try.prog w = .ok (.enter 28 args) w := by kernel_rfl
theorem enterStrong (args : Array Value) (w : World) : (callFunc 42 args).run Try.prog w = .ok (.enter 42 args) w := by kernel_rfl

theorem between13_any (x a b : Int) (w : World) : Calls Try.prog 24 #[.int .i64 x, .int .i64 a, .int .i64 b] w fun e w' => e = .returned (.bool (decide (a ≤ x) && decide (x ≤ b))) ∧ Below w.heap.size w w' := by
  by_cases h1 : a ≤ x
  · by_cases h2 : x ≤ b
    · rw [decide_eq_true h1, decide_eq_true h2]
      go_enter Try.func24, Try.ntmps24
      go_wp2
      go_returns
      exact ⟨rfl, by go_grown⟩
    · rw [decide_eq_true h1, decide_eq_false h2]
      go_enter Try.func24, Try.ntmps24
      go_wp2
      go_returns
      exact ⟨rfl, by go_grown⟩
  · rw [decide_eq_false h1]
    go_enter Try.func24, Try.ntmps24
    go_wp2
    go_returns
    exact ⟨rfl, by go_grown⟩

theorem heavy13_any (x : Int) (w : World) : Calls Try.prog 28 #[.int .i64 x] w fun e w' => e = .returned (.bool (S13.heavy x)) ∧ Below w.heap.size w w' := by
  have hs : S13.heavy x = !(decide (-1048576 ≤ x) && decide (x ≤ 1048576)) := by unfold S13.heavy; by_cases h1 : -1048576 ≤ x <;> by_cases h2 : x ≤ 1048576 <;> simp [h1, h2] <;> omega
  rw [hs]
  have HB := Lib.hid fun W => between13_any x (-1048576) 1048576 W
  generalize (decide (-1048576 ≤ x) && decide (x ≤ 1048576)) = b at *
  clear hs
  go_enter Try.func28, Try.ntmps28
  go_wp2_with fail
  refine (HB.out _).mono ?_
  rintro e w1 ⟨rfl, hb1⟩
  have hB1 : Below w.heap.size w w1 := below_trans (by go_grown) hb1
  have z1 : w.heap.size ≤ w1.heap.size := hB1.size
  go_wp2
  go_returns
  exact ⟨rfl, hB1⟩

theorem strong13_any (x : Int) (w : World) : Calls Try.prog 42 #[.int .i64 x] w fun e w' => e = .returned (.bool (S13.strong x)) ∧ Below w.heap.size w w' := by
  have hs : S13.strong x = !(decide (-3071 ≤ x) && decide (x ≤ 3071)) := by unfold S13.strong; by_cases h1 : -3071 ≤ x <;> by_cases h2 : x ≤ 3071 <;> simp [h1, h2] <;> omega
  rw [hs]
  have HB := Lib.hid fun W => between13_any x (-3071) 3071 W
  generalize (decide (-3071 ≤ x) && decide (x ≤ 3071)) = b at *
  clear hs
  go_enter Try.func42, Try.ntmps42
  go_wp2_with fail
  refine (HB.out _).mono ?_
  rintro e w1 ⟨rfl, hb1⟩
  have hB1 : Below w.heap.size w w1 := below_trans (by go_grown) hb1
  have z1 : w.heap.size ≤ w1.heap.size := hB1.size
  go_wp2
  go_returns
  exact ⟨rfl, hB1⟩
end Go.Proofs.Ytkpkkbpfcchgaaa
