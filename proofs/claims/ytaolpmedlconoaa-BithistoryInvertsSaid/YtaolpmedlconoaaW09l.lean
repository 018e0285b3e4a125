/- awake (law 9): the examples of the chapter. No condition. -/
import Derived.Test.YtaolpmedlconoaaW09k
import Derived.Laws.MakeOwn
set_option linter.unusedSimpArgs false
set_option linter.unusedVariables false
set_option linter.unusedSectionVars false
namespace Go.Proofs.Ytaolpmedlconoaa
open Go.RowKit

theorem countsAt09 (s z o l : Int) (w : World) (h : decide (S09.hz s = z ∧ S09.ho s = o ∧ S09.hl s = l ∧ S09.err s = 0) = true) :
    Calls Try.prog 14 #[.int .i64 s] w fun e w' => e = .returned (.tuple #[.int .i64 z, .int .i64 o, .int .i64 l, .int .i64 0]) ∧ Below w.heap.size w w' := by
  obtain ⟨rfl, rfl, rfl, h4⟩ := of_decide_eq_true h
  have := counts09_any s w
  rw [h4] at this
  exact this

def S09.ex1 : Int := S09.walk false [true, true, true, true, true, false] 0
def S09.ex2 : Int := S09.walk false (List.replicate 31 false) 0

set_option maxHeartbeats 4000000 in
theorem awake09_any (w : World) : Calls Try.prog 12 #[] w fun e w' => e = .returned (.bool true) ∧ Below w.heap.size w w' := by
  have ix0 : ∀ w, (Instr.index 54 (.agg #[.int .i64 0, .int .i64 0, .int .i64 0, .int .i64 1, .int .i64 0, .int .i64 0, .int .i64 0, .int .i64 1, .int .i64 1, .int .i64 2, .int .i64 0, .int .i64 0, .int .i64 1, .int .i64 1, .int .i64 0, .int .i64 1, .int .i64 1, .int .i64 1, .int .i64 0, .int .i64 2, .int .i64 1]) (.int .i64 0)).run Try.prog w = .ok (.agg #[.int .i64 0, .int .i64 0, .int .i64 0]) w := fun _ => by kernel_rfl
  have ix1 : ∀ w, (Instr.index 54 (.agg #[.int .i64 0, .int .i64 0, .int .i64 0, .int .i64 1, .int .i64 0, .int .i64 0, .int .i64 0, .int .i64 1, .int .i64 1, .int .i64 2, .int .i64 0, .int .i64 0, .int .i64 1, .int .i64 1, .int .i64 0, .int .i64 1, .int .i64 1, .int .i64 1, .int .i64 0, .int .i64 2, .int .i64 1]) (.int .i64 1)).run Try.prog w = .ok (.agg #[.int .i64 1, .int .i64 0, .int .i64 0]) w := fun _ => by kernel_rfl
  have ix2 : ∀ w, (Instr.index 54 (.agg #[.int .i64 0, .int .i64 0, .int .i64 0, .int .i64 1, .int .i64 0, .int .i64 0, .int .i64 0, .int .i64 1, .int .i64 1, .int .i64 2, .int .i64 0, .int .i64 0, .int .i64 1, .int .i64 1, .int .i64 0, .int .i64 1, .int .i64 1, .int .i64 1, .int .i64 0, .int .i64 2, .int .i64 1]) (.int .i64 2)).run Try.prog w = .ok (.agg #[.int .i64 0, .int .i64 1, .int .i64 1]) w := fun _ => by kernel_rfl
  have ix3 : ∀ w, (Instr.index 54 (.agg #[.int .i64 0, .int .i64 0, .int .i64 0, .int .i64 1, .int .i64 0, .int .i64 0, .int .i64 0, .int .i64 1, .int .i64 1, .int .i64 2, .int .i64 0, .int .i64 0, .int .i64 1, .int .i64 1, .int .i64 0, .int .i64 1, .int .i64 1, .int .i64 1, .int .i64 0, .int .i64 2, .int .i64 1]) (.int .i64 3)).run Try.prog w = .ok (.agg #[.int .i64 2, .int .i64 0, .int .i64 0]) w := fun _ => by kernel_rfl
  have ix4 : ∀ w, (Instr.index 54 (.agg #[.int .i64 0, .int .i64 0, .int .i64 0, .int .i64 1, .int .i64 0, .int .i64 0, .int .i64 0, .int .i64 1, .int .i64 1, .int .i64 2, .int .i64 0, .int .i64 0, .int .i64 1, .int .i64 1, .int .i64 0, .int .i64 1, .int .i64 1, .int .i64 1, .int .i64 0, .int .i64 2, .int .i64 1]) (.int .i64 4)).run Try.prog w = .ok (.agg #[.int .i64 1, .int .i64 1, .int .i64 0]) w := fun _ => by kernel_rfl
  have ix5 : ∀ w, (Instr.index 54 (.agg #[.int .i64 0, .int .i64 0, .int .i64 0, .int .i64 1, .int .i64 0, .int .i64 0, .int .i64 0, .int .i64 1, .int .i64 1, .int .i64 2, .int .i64 0, .int .i64 0, .int .i64 1, .int .i64 1, .int .i64 0, .int .i64 1, .int .i64 1, .int .i64 1, .int .i64 0, .int .i64 2, .int .i64 1]) (.int .i64 5)).run Try.prog w = .ok (.agg #[.int .i64 1, .int .i64 1, .int .i64 1]) w := fun _ => by kernel_rfl
  have ix6 : ∀ w, (Instr.index 54 (.agg #[.int .i64 0, .int .i64 0, .int .i64 0, .int .i64 1, .int .i64 0, .int .i64 0, .int .i64 0, .int .i64 1, .int .i64 1, .int .i64 2, .int .i64 0, .int .i64 0, .int .i64 1, .int .i64 1, .int .i64 0, .int .i64 1, .int .i64 1, .int .i64 1, .int .i64 0, .int .i64 2, .int .i64 1]) (.int .i64 6)).run Try.prog w = .ok (.agg #[.int .i64 0, .int .i64 2, .int .i64 1]) w := fun _ => by kernel_rfl
  go_enter Try.func12, Try.ntmps12
  go_wp2
  go_loopw [27] (fun i wr => ∃ k : Nat, k ≤ 7 ∧ i = .int .i64 k ∧ Below w.heap.size w wr) (fun i _ => 7 - (intOf i).toNat)
  case atStart => exact ⟨0, by omega, rfl, Below.refl _ _⟩
  case round =>
    obtain ⟨k, hk, rfl, hB⟩ := hrel
    have zr : w.heap.size ≤ wr.heap.size := hB.size
    rcases (show k = 7 ∨ k = 0 ∨ k = 1 ∨ k = 2 ∨ k = 3 ∨ k = 4 ∨ k = 5 ∨ k = 6 by omega) with rfl | rfl | rfl | rfl | rfl | rfl | rfl | rfl
    · clear ix0 ix1 ix2 ix3 ix4 ix5 ix6
      have hA1 := after09_any 0 (some ⟨wr.heap.size, 0, none⟩) [true, true, true, true, true, false] 6 false (wr.alloc (Obj.cells #[.bool true, .bool true, .bool true, .bool true, .bool true, .bool false] 4)) (by decide +kernel) (by simp) (fun _ => ⟨_, 0, rfl, (Blk.new wr [.bool true, .bool true, .bool true, .bool true, .bool true, .bool false] 4).cells⟩)
      rw [show S09.walk false [true, true, true, true, true, false] 0 = S09.ex1 from rfl] at hA1
      have HA1 := Lib.hid hA1
      clear hA1
      have HC1 := Lib.hid fun W => countsAt09 S09.ex1 1 3 0 W (by decide +kernel)
      have HC2 := Lib.hid fun W => countsAt09 S09.ex2 30 0 0 W (by decide +kernel)
      generalize S09.ex1 = x1 at *
      go_wp2_with fail
      refine HA1.out.mono ?_
      rintro e w1 ⟨rfl, hb1⟩
      have hB1 : Below w.heap.size w w1 := below_trans (by go_grown) hb1
      go_wp2_with fail
      refine (HC1.out _).mono ?_
      rintro e w2 ⟨rfl, hb2⟩
      have hB2 : Below w.heap.size w w2 := below_trans hB1 hb2
      have z2 : w.heap.size ≤ w2.heap.size := hB2.size
      have hmk : ∀ w, (Instr.makeSlice 29 (.int .i64 31) (.int .i64 31)).run Try.prog w = .ok (.slice (some ⟨w.heap.size, 0, none⟩) 31 31) (w.alloc (.cells (List.replicate 31 (Value.bool false)).toArray 4)) := fun _ => by kernel_rfl
      have hA2 := fun W => after09_any 0 (some ⟨W.heap.size, 0, none⟩) (List.replicate 31 false) 31 false (W.alloc (Obj.cells (List.replicate 31 (Value.bool false)).toArray 4)) (by decide +kernel) (by simp) (fun _ => ⟨_, 0, rfl, (Blk.new W (List.replicate 31 (Value.bool false)) 4).cells⟩)
      rw [show S09.walk false (List.replicate 31 false) 0 = S09.ex2 from rfl, show (List.replicate 31 false).length = 31 from rfl] at hA2
      have HA2 := Lib.hid hA2
      clear hA2
      generalize (List.replicate 31 (Value.bool false)).toArray = Z at *
      generalize S09.ex2 = x2 at *
      go_wp2_with fail
      refine (HA2.out _).mono ?_
      rintro e w3 ⟨rfl, hb3⟩
      have hB3 : Below w.heap.size w w3 := below_trans (by go_grown) hb3
      go_wp2_with fail
      refine (HC2.out _).mono ?_
      rintro e w4 ⟨rfl, hb4⟩
      have hB4 : Below w.heap.size w w4 := below_trans hB3 hb4
      go_wp2_with fail
      refine (count09_any _).mono ?_
      rintro e w5 ⟨rfl, hb5⟩
      have hB5 : Below w.heap.size w w5 := below_trans hB4 hb5
      go_wp2
      go_returns
      exact ⟨rfl, hB5⟩
    · have HC := Lib.hid fun W => countsAt09 0 0 0 0 W (by decide +kernel)
      go_wp2_with fail
      refine (HC.out _).mono ?_
      rintro e w1 ⟨rfl, hb1⟩
      have hB1 : Below w.heap.size w w1 := below_trans (by go_grown) hb1
      have k1 : w1.cell? ⟨wr.heap.size, 0, none⟩ = some (.int .i64 0) := (hb1.cell (by simp <;> omega)).trans (by go_simp)
      have k2 : w1.cell? ⟨wr.heap.size, 1, none⟩ = some (.int .i64 0) := (hb1.cell (by simp <;> omega)).trans (by go_simp)
      have k3 : w1.cell? ⟨wr.heap.size, 2, none⟩ = some (.int .i64 0) := (hb1.cell (by simp <;> omega)).trans (by go_simp)
      go_wp2
      go_roundw
      case rel => exact ⟨1, by omega, by go_num, hB1⟩
      case measure => simp [intOf]
    · have HC := Lib.hid fun W => countsAt09 1 1 0 0 W (by decide +kernel)
      go_wp2_with fail
      refine (HC.out _).mono ?_
      rintro e w1 ⟨rfl, hb1⟩
      have hB1 : Below w.heap.size w w1 := below_trans (by go_grown) hb1
      have k4 : w1.cell? ⟨wr.heap.size, 0, none⟩ = some (.int .i64 1) := (hb1.cell (by simp <;> omega)).trans (by go_simp)
      have k5 : w1.cell? ⟨wr.heap.size, 1, none⟩ = some (.int .i64 0) := (hb1.cell (by simp <;> omega)).trans (by go_simp)
      have k6 : w1.cell? ⟨wr.heap.size, 2, none⟩ = some (.int .i64 0) := (hb1.cell (by simp <;> omega)).trans (by go_simp)
      go_wp2
      go_roundw
      case rel => exact ⟨2, by omega, by go_num, hB1⟩
      case measure => simp [intOf]
    · have HC := Lib.hid fun W => countsAt09 2 0 1 1 W (by decide +kernel)
      go_wp2_with fail
      refine (HC.out _).mono ?_
      rintro e w1 ⟨rfl, hb1⟩
      have hB1 : Below w.heap.size w w1 := below_trans (by go_grown) hb1
      have k7 : w1.cell? ⟨wr.heap.size, 0, none⟩ = some (.int .i64 0) := (hb1.cell (by simp <;> omega)).trans (by go_simp)
      have k8 : w1.cell? ⟨wr.heap.size, 1, none⟩ = some (.int .i64 1) := (hb1.cell (by simp <;> omega)).trans (by go_simp)
      have k9 : w1.cell? ⟨wr.heap.size, 2, none⟩ = some (.int .i64 1) := (hb1.cell (by simp <;> omega)).trans (by go_simp)
      go_wp2
      go_roundw
      case rel => exact ⟨3, by omega, by go_num, hB1⟩
      case measure => simp [intOf]
    · have HC := Lib.hid fun W => countsAt09 3 2 0 0 W (by decide +kernel)
      go_wp2_with fail
      refine (HC.out _).mono ?_
      rintro e w1 ⟨rfl, hb1⟩
      have hB1 : Below w.heap.size w w1 := below_trans (by go_grown) hb1
      have k10 : w1.cell? ⟨wr.heap.size, 0, none⟩ = some (.int .i64 2) := (hb1.cell (by simp <;> omega)).trans (by go_simp)
      have k11 : w1.cell? ⟨wr.heap.size, 1, none⟩ = some (.int .i64 0) := (hb1.cell (by simp <;> omega)).trans (by go_simp)
      have k12 : w1.cell? ⟨wr.heap.size, 2, none⟩ = some (.int .i64 0) := (hb1.cell (by simp <;> omega)).trans (by go_simp)
      go_wp2
      go_roundw
      case rel => exact ⟨4, by omega, by go_num, hB1⟩
      case measure => simp [intOf]
    · have HC := Lib.hid fun W => countsAt09 4 1 1 0 W (by decide +kernel)
      go_wp2_with fail
      refine (HC.out _).mono ?_
      rintro e w1 ⟨rfl, hb1⟩
      have hB1 : Below w.heap.size w w1 := below_trans (by go_grown) hb1
      have k13 : w1.cell? ⟨wr.heap.size, 0, none⟩ = some (.int .i64 1) := (hb1.cell (by simp <;> omega)).trans (by go_simp)
      have k14 : w1.cell? ⟨wr.heap.size, 1, none⟩ = some (.int .i64 1) := (hb1.cell (by simp <;> omega)).trans (by go_simp)
      have k15 : w1.cell? ⟨wr.heap.size, 2, none⟩ = some (.int .i64 0) := (hb1.cell (by simp <;> omega)).trans (by go_simp)
      go_wp2
      go_roundw
      case rel => exact ⟨5, by omega, by go_num, hB1⟩
      case measure => simp [intOf]
    · have HC := Lib.hid fun W => countsAt09 5 1 1 1 W (by decide +kernel)
      go_wp2_with fail
      refine (HC.out _).mono ?_
      rintro e w1 ⟨rfl, hb1⟩
      have hB1 : Below w.heap.size w w1 := below_trans (by go_grown) hb1
      have k16 : w1.cell? ⟨wr.heap.size, 0, none⟩ = some (.int .i64 1) := (hb1.cell (by simp <;> omega)).trans (by go_simp)
      have k17 : w1.cell? ⟨wr.heap.size, 1, none⟩ = some (.int .i64 1) := (hb1.cell (by simp <;> omega)).trans (by go_simp)
      have k18 : w1.cell? ⟨wr.heap.size, 2, none⟩ = some (.int .i64 1) := (hb1.cell (by simp <;> omega)).trans (by go_simp)
      go_wp2
      go_roundw
      case rel => exact ⟨6, by omega, by go_num, hB1⟩
      case measure => simp [intOf]
    · have HC := Lib.hid fun W => countsAt09 6 0 2 1 W (by decide +kernel)
      go_wp2_with fail
      refine (HC.out _).mono ?_
      rintro e w1 ⟨rfl, hb1⟩
      have hB1 : Below w.heap.size w w1 := below_trans (by go_grown) hb1
      have k19 : w1.cell? ⟨wr.heap.size, 0, none⟩ = some (.int .i64 0) := (hb1.cell (by simp <;> omega)).trans (by go_simp)
      have k20 : w1.cell? ⟨wr.heap.size, 1, none⟩ = some (.int .i64 2) := (hb1.cell (by simp <;> omega)).trans (by go_simp)
      have k21 : w1.cell? ⟨wr.heap.size, 2, none⟩ = some (.int .i64 1) := (hb1.cell (by simp <;> omega)).trans (by go_simp)
      go_wp2
      go_roundw
      case rel => exact ⟨7, by omega, by go_num, hB1⟩
      case measure => simp [intOf]
end Go.Proofs.Ytaolpmedlconoaa
