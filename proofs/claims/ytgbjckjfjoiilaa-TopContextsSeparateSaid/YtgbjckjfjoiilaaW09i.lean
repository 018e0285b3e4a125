/- What the reference of layer 9 returns: State, Chance, Priority, Count. No condition. -/
import Derived.Test.YtgbjckjfjoiilaaW09h
set_option linter.unusedSimpArgs false
set_option linter.unusedVariables false
set_option linter.unusedSectionVars false
namespace Go.Proofs.Ytgbjckjfjoiilaa
open Go.RowKit

/-- What State returns: the state, the error. -/
def S09.stateS (z o l : Int) : Int := if l = 0 ∨ l = 1 then S09.idx z o l else 0
def S09.stateE (z o l : Int) : Int := if l = 0 ∨ l = 1 then (if S09.is z o l then 0 else 7) else 1

theorem refCount09_any (w : World) : Calls Try.prog 46 #[] w fun e w' => e = .returned (.int .i64 215) ∧ Below w.heap.size w w' := by
  go_enter Try.func46, Try.ntmps46
  go_wp2
  go_returns
  exact ⟨rfl, by go_grown⟩

set_option maxHeartbeats 400000 in
theorem refPriority09_any (s : Int) (w : World) :
    Calls Try.prog 73 #[.int .i64 s] w fun e w' => e = .returned (.int .i64 (if S09.found s then S09.hz s + S09.ho s else -1)) ∧ Below w.heap.size w w' := by
  have hL := Lib.hid fun W => refCounts09_any s W
  obtain ⟨b1, b2, b3, b4, b5, b6⟩ := S09.h_bounds s
  cases hf : S09.found s with
  | false =>
    have e4 : S09.err s = 2 := by simp [S09.err, hf]
    rw [e4] at hL
    clear e4 hf
    generalize S09.hz s = z at *
    generalize S09.ho s = o at *
    generalize S09.hl s = l at *
    go_enter Try.func73, Try.ntmps73
    go_wp2_with fail
    refine (hL.out _).mono ?_
    rintro e w1 ⟨rfl, hb1⟩
    have hB1 : Below w.heap.size w w1 := below_trans (by go_grown) hb1
    have z1 : w.heap.size ≤ w1.heap.size := hB1.size
    go_wp2
    go_returns
    exact ⟨rfl, by go_grown⟩
  | true =>
    have e4 : S09.err s = 0 := by simp [S09.err, hf]
    rw [e4] at hL
    clear e4 hf
    generalize S09.hz s = z at *
    generalize S09.ho s = o at *
    generalize S09.hl s = l at *
    go_enter Try.func73, Try.ntmps73
    go_wp2_with fail
    refine (hL.out _).mono ?_
    rintro e w1 ⟨rfl, hb1⟩
    have hB1 : Below w.heap.size w w1 := below_trans (by go_grown) hb1
    have z1 : w.heap.size ≤ w1.heap.size := hB1.size
    go_wp2
    go_returns
    exact ⟨rfl, by go_grown⟩

/-! State. -/
end Go.Proofs.Ytgbjckjfjoiilaa
