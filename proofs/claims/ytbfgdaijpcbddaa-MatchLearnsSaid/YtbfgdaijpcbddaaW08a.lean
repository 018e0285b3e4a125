/- What the functions of layer 8 (counter) and its reference do: the small ones. No condition. -/
import Derived.Test.YtbfgdaijpcbddaaRows
import Derived.Test.YtbfgdaijpcbddaaBase2
import Derived.Test.YtbfgdaijpcbddaaSpec08
import Derived.WalkKit
import Derived.WalkSpells
import Derived.WalkLawsBesides
import Derived.Handy
import Derived.Deep.Light
import Derived.Lib.Hide
set_option linter.unusedSimpArgs false
set_option linter.unusedVariables false
set_option linter.unusedSectionVars false
namespace Go.Proofs.Ytbfgdaijpcbddaa
open Go.RowKit

set_option maxHeartbeats 400000 in
theorem refCheck08_any (p n limit : Int) (w : World) :
    Calls Try.prog 48 #[.agg #[.int .i64 p, .int .i64 n], .int .i64 limit] w fun e w' => e = .returned (.int .i64 (S08.check p n limit)) ∧ Below w.heap.size w w' := by
  go_enter Try.func48, Try.ntmps48
  go_wp2
  all_goals (go_returns; refine ⟨ret_i64 ?_, by go_grown⟩; go_light; unfold S08.check; (repeat' split) <;> omega)

set_option maxHeartbeats 400000 in
theorem refPredict08_any (p n : Int) (w : World) :
    Calls Try.prog 40 #[.agg #[.int .i64 p, .int .i64 n]] w fun e w' => e = .returned (.int .i64 (S08.predict p n)) ∧ Below w.heap.size w w' := by
  go_enter Try.func40, Try.ntmps40
  go_wp2
  all_goals (go_returns; refine ⟨ret_i64 ?_, by go_grown⟩; go_light; unfold S08.predict; (repeat' split) <;> omega)

set_option maxHeartbeats 400000 in
theorem valid08_yes (p : Int) (b o : Nat) (w : World) (hc : w.cell? ⟨b, o, none⟩ = some (.int .i64 p)) (h1 : 0 ≤ p) (h2 : p ≤ 65535) :
    Calls Try.prog 56 #[.pointer (some ⟨b, o, none⟩)] w fun e w' => e = .returned (.bool true) ∧ w = w' := by
  go_enter Try.func56, Try.ntmps56
  go_wp2
  go_returns
  exact ⟨ret_bool (by simp [h1, h2]), rfl⟩

set_option maxHeartbeats 400000 in
theorem valid08_no (p : Int) (b o : Nat) (w : World) (hc : w.cell? ⟨b, o, none⟩ = some (.int .i64 p)) (h : p < 0 ∨ 65535 < p) :
    Calls Try.prog 56 #[.pointer (some ⟨b, o, none⟩)] w fun e w' => e = .returned (.bool false) ∧ w = w' := by
  rcases h with h | h
  · go_enter Try.func56, Try.ntmps56
    go_wp2
    go_returns
    exact ⟨ret_bool (by simp <;> omega), rfl⟩
  · have h' : 0 ≤ p := by omega
    go_enter Try.func56, Try.ntmps56
    go_wp2
    go_returns
    exact ⟨ret_bool (by simp <;> omega), rfl⟩

set_option maxHeartbeats 400000 in
theorem check08_any (p n limit : Int) (w : World) :
    Calls Try.prog 44 #[.agg #[.int .i64 p, .int .i64 n], .int .i64 limit] w fun e w' => e = .returned (.int .i64 (S08.check p n limit)) ∧ Below w.heap.size w w' := by
  by_cases hp : p < 0 ∨ 65535 < p
  · go_enter Try.func44, Try.ntmps44
    go_wp2_with (go_at_call 56; refine (valid08_no _ _ _ _ (by go_simp) hp).mono ?_; rintro e w' ⟨rfl, rfl⟩)
    all_goals (go_returns; refine ⟨ret_i64 ?_, by go_grown⟩; go_light; unfold S08.check; (repeat' split) <;> omega)
  · have h1 : 0 ≤ p := by omega
    have h2 : p ≤ 65535 := by omega
    clear hp
    go_enter Try.func44, Try.ntmps44
    go_wp2_with (go_at_call 56; refine (valid08_yes _ _ _ _ (by go_simp) h1 h2).mono ?_; rintro e w' ⟨rfl, rfl⟩)
    all_goals (go_returns; refine ⟨ret_i64 ?_, by go_grown⟩; go_light; unfold S08.check; (repeat' split) <;> omega)

set_option maxHeartbeats 400000 in
theorem predict08_any (p n : Int) (w : World) :
    Calls Try.prog 30 #[.agg #[.int .i64 p, .int .i64 n]] w fun e w' => e = .returned (.int .i64 (S08.predict p n)) ∧ Below w.heap.size w w' := by
  by_cases hp : p < 0 ∨ 65535 < p
  · go_enter Try.func30, Try.ntmps30
    go_wp2_with (go_at_call 56; refine (valid08_no _ _ _ _ (by go_simp) hp).mono ?_; rintro e w' ⟨rfl, rfl⟩)
    all_goals (go_returns; refine ⟨ret_i64 ?_, by go_grown⟩; go_light; unfold S08.predict; (repeat' split) <;> omega)
  · have h1 : 0 ≤ p := by omega
    have h2 : p ≤ 65535 := by omega
    clear hp
    go_enter Try.func30, Try.ntmps30
    go_wp2_with (go_at_call 56; refine (valid08_yes _ _ _ _ (by go_simp) h1 h2).mono ?_; rintro e w' ⟨rfl, rfl⟩)
    all_goals (go_returns; refine ⟨ret_i64 ?_, by go_grown⟩; go_light; unfold S08.predict; (repeat' split) <;> omega)

end Go.Proofs.Ytbfgdaijpcbddaa
