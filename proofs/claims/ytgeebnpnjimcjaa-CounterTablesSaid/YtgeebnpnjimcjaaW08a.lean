/- What the functions of layer 8 (counter) and its reference do: the small ones. No condition. -/
import Derived.Test.YtgeebnpnjimcjaaRows
import Derived.Test.YtgeebnpnjimcjaaBase2
import Derived.Test.YtgeebnpnjimcjaaSpec08
import Derived.WalkKit
import Derived.WalkSpells
import Derived.WalkLawsBesides
import Derived.Handy
import Derived.Deep.Light
import Derived.Lib.Hide
set_option linter.unusedSimpArgs false
set_option linter.unusedVariables false
set_option linter.unusedSectionVars false
namespace Go.Proofs.Ytgeebnpnjimcjaa
open Go.RowKit

set_option maxHeartbeats 400000 in
theorem refCheck08_any (p n limit : Int) (w : World) :
    Calls Try.prog 14 #[.agg #[.int .i64 p, .int .i64 n], .int .i64 limit] w fun e w' => e = .returned (.int .i64 (S08.check p n limit)) ∧ Below w.heap.size w w' := by
  go_enter Try.func14, Try.ntmps14
  go_wp2
  all_goals (go_returns; refine ⟨ret_i64 ?_, by go_grown⟩; go_light; unfold S08.check; (repeat' split) <;> omega)

set_option maxHeartbeats 400000 in
theorem refNew08_any (p : Int) (w : World) :
    Calls Try.prog 11 #[.int .i64 p] w fun e w' => e = .returned (S08.newV p) ∧ Below w.heap.size w w' := by
  go_enter Try.func11, Try.ntmps11
  go_wp2
  all_goals (go_returns; refine ⟨?_, by go_grown⟩; go_light; unfold S08.newV; split <;> first | rfl | (exfalso; omega))

set_option maxHeartbeats 400000 in
theorem refPredict08_any (p n : Int) (w : World) :
    Calls Try.prog 16 #[.agg #[.int .i64 p, .int .i64 n]] w fun e w' => e = .returned (.int .i64 (S08.predict p n)) ∧ Below w.heap.size w w' := by
  go_enter Try.func16, Try.ntmps16
  go_wp2
  all_goals (go_returns; refine ⟨ret_i64 ?_, by go_grown⟩; go_light; unfold S08.predict; (repeat' split) <;> omega)

set_option maxHeartbeats 400000 in
theorem valid08_yes (p : Int) (b o : Nat) (w : World) (hc : w.cell? ⟨b, o, none⟩ = some (.int .i64 p)) (h1 : 0 ≤ p) (h2 : p ≤ 65535) :
    Calls Try.prog 23 #[.pointer (some ⟨b, o, none⟩)] w fun e w' => e = .returned (.bool true) ∧ w = w' := by
  go_enter Try.func23, Try.ntmps23
  go_wp2
  go_returns
  exact ⟨ret_bool (by simp [h1, h2]), rfl⟩

set_option maxHeartbeats 400000 in
theorem valid08_no (p : Int) (b o : Nat) (w : World) (hc : w.cell? ⟨b, o, none⟩ = some (.int .i64 p)) (h : p < 0 ∨ 65535 < p) :
    Calls Try.prog 23 #[.pointer (some ⟨b, o, none⟩)] w fun e w' => e = .returned (.bool false) ∧ w = w' := by
  rcases h with h | h
  · go_enter Try.func23, Try.ntmps23
    go_wp2
    go_returns
    exact ⟨ret_bool (by simp <;> omega), rfl⟩
  · have h' : 0 ≤ p := by omega
    go_enter Try.func23, Try.ntmps23
    go_wp2
    go_returns
    exact ⟨ret_bool (by simp <;> omega), rfl⟩

set_option maxHeartbeats 400000 in
theorem check08_any (p n limit : Int) (w : World) :
    Calls Try.prog 13 #[.agg #[.int .i64 p, .int .i64 n], .int .i64 limit] w fun e w' => e = .returned (.int .i64 (S08.check p n limit)) ∧ Below w.heap.size w w' := by
  by_cases hp : p < 0 ∨ 65535 < p
  · go_enter Try.func13, Try.ntmps13
    go_wp2_with (go_at_call 23; refine (valid08_no _ _ _ _ (by go_simp) hp).mono ?_; rintro e w' ⟨rfl, rfl⟩)
    all_goals (go_returns; refine ⟨ret_i64 ?_, by go_grown⟩; go_light; unfold S08.check; (repeat' split) <;> omega)
  · have h1 : 0 ≤ p := by omega
    have h2 : p ≤ 65535 := by omega
    clear hp
    go_enter Try.func13, Try.ntmps13
    go_wp2_with (go_at_call 23; refine (valid08_yes _ _ _ _ (by go_simp) h1 h2).mono ?_; rintro e w' ⟨rfl, rfl⟩)
    all_goals (go_returns; refine ⟨ret_i64 ?_, by go_grown⟩; go_light; unfold S08.check; (repeat' split) <;> omega)

set_option maxHeartbeats 400000 in
theorem new08_any (p : Int) (w : World) :
    Calls Try.prog 10 #[.int .i64 p] w fun e w' => e = .returned (S08.newV p) ∧ Below w.heap.size w w' := by
  by_cases hp : p < 0 ∨ 65535 < p
  · go_enter Try.func10, Try.ntmps10
    go_wp2_with (go_at_call 23; refine (valid08_no _ _ _ _ (by go_simp) hp).mono ?_; rintro e w' ⟨rfl, rfl⟩)
    all_goals (go_returns; refine ⟨?_, by go_grown⟩; go_light; unfold S08.newV; rw [if_pos hp])
  · have h1 : 0 ≤ p := by omega
    have h2 : p ≤ 65535 := by omega
    have hp' := Lib.hid hp
    clear hp
    go_enter Try.func10, Try.ntmps10
    go_wp2_with (go_at_call 23; refine (valid08_yes _ _ _ _ (by go_simp) h1 h2).mono ?_; rintro e w' ⟨rfl, rfl⟩)
    all_goals (go_returns; refine ⟨?_, by go_grown⟩; go_light; unfold S08.newV; rw [if_neg hp'.out])

set_option maxHeartbeats 400000 in
theorem predict08_any (p n : Int) (w : World) :
    Calls Try.prog 15 #[.agg #[.int .i64 p, .int .i64 n]] w fun e w' => e = .returned (.int .i64 (S08.predict p n)) ∧ Below w.heap.size w w' := by
  by_cases hp : p < 0 ∨ 65535 < p
  · go_enter Try.func15, Try.ntmps15
    go_wp2_with (go_at_call 23; refine (valid08_no _ _ _ _ (by go_simp) hp).mono ?_; rintro e w' ⟨rfl, rfl⟩)
    all_goals (go_returns; refine ⟨ret_i64 ?_, by go_grown⟩; go_light; unfold S08.predict; (repeat' split) <;> omega)
  · have h1 : 0 ≤ p := by omega
    have h2 : p ≤ 65535 := by omega
    clear hp
    go_enter Try.func15, Try.ntmps15
    go_wp2_with (go_at_call 23; refine (valid08_yes _ _ _ _ (by go_simp) h1 h2).mono ?_; rintro e w' ⟨rfl, rfl⟩)
    all_goals (go_returns; refine ⟨ret_i64 ?_, by go_grown⟩; go_light; unfold S08.predict; (repeat' split) <;> omega)

end Go.Proofs.Ytgeebnpnjimcjaa
