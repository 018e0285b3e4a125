/- What the law's own example function (awake) of layer 8 does (it returns true), and the laws CounterMakes and CounterUpdates at every input. No condition. -/
import Derived.Test.YtgeebnpnjimcjaaW08e
set_option linter.unusedSimpArgs false
set_option linter.unusedVariables false
set_option linter.unusedSectionVars false
namespace Go.Proofs.Ytgeebnpnjimcjaa
open Go.RowKit

theorem ex08_new : S08.newV 32768 = .tuple #[.agg #[.int .i64 32768, .int .i64 0], .int .i64 0] := rfl
theorem ex08_up1 : S08.updateV 32768 0 1 5 = .tuple #[.agg #[.int .i64 54612, .int .i64 1], .int .i64 0] := rfl
theorem ex08_up2 : S08.updateV 54612 1 0 5 = .tuple #[.agg #[.int .i64 32768, .int .i64 2], .int .i64 0] := rfl
theorem ex08_up3 : S08.updateV 32768 2 1 1 = .tuple #[.agg #[.int .i64 0, .int .i64 0], .int .i64 3] := rfl
theorem ex08_pr : S08.predict 54612 1 = 3413 := rfl

set_option maxHeartbeats 400000 in
theorem awake08_any (w : World) : Calls Try.prog 12 #[] w fun e w' => e = .returned (.bool true) ∧ Below w.heap.size w w' := by
  go_enter Try.func12, Try.ntmps12
  go_wp2_with fail
  refine (new08_any _ _).mono ?_
  rw [ex08_new]
  rintro e w1 ⟨rfl, hb1⟩
  have hB1 : Below w.heap.size w w1 := below_trans (by go_grown) hb1
  have z1 : w.heap.size ≤ w1.heap.size := hB1.size
  go_wp2_with fail
  refine (update08_any _ _ _ _ _).mono ?_
  rw [ex08_up1]
  rintro e w2 ⟨rfl, hb2⟩
  have hB2 : Below w.heap.size w w2 := below_trans (by go_grown) hb2
  have z2 : w.heap.size ≤ w2.heap.size := hB2.size
  go_wp2_with fail
  refine (update08_any _ _ _ _ _).mono ?_
  rw [ex08_up2]
  rintro e w3 ⟨rfl, hb3⟩
  have hB3 : Below w.heap.size w w3 := below_trans (by go_grown) hb3
  have z3 : w.heap.size ≤ w3.heap.size := hB3.size
  have k1 : w3.cell? ⟨w2.heap.size, 0, none⟩ = some (.int .i64 54612) := (hb3.cell (by simp <;> omega)).trans (by go_simp)
  have k2 : w3.cell? ⟨w2.heap.size, 1, none⟩ = some (.int .i64 1) := (hb3.cell (by simp <;> omega)).trans (by go_simp)
  have s23 : w2.heap.size < w3.heap.size := by have := hb3.size; simp at this; omega
  go_wp2_with fail
  refine (update08_any _ _ _ _ _).mono ?_
  rw [ex08_up3]
  rintro e w4 ⟨rfl, hb4⟩
  have hB4 : Below w.heap.size w w4 := below_trans (by go_grown) hb4
  have z4 : w.heap.size ≤ w4.heap.size := hB4.size
  have s34 : w3.heap.size < w4.heap.size := by have := hb4.size; simp at this; omega
  have s24 : w2.heap.size < w4.heap.size := by omega
  have k3 : w4.cell? ⟨w2.heap.size, 0, none⟩ = some (.int .i64 54612) := (hb4.cell (by simp <;> omega)).trans (by go_simp)
  have k4 : w4.cell? ⟨w2.heap.size, 1, none⟩ = some (.int .i64 1) := (hb4.cell (by simp <;> omega)).trans (by go_simp)
  have k5 : w4.cell? ⟨w3.heap.size, 0, none⟩ = some (.int .i64 32768) := (hb4.cell (by simp <;> omega)).trans (by go_simp)
  have k6 : w4.cell? ⟨w3.heap.size, 1, none⟩ = some (.int .i64 2) := (hb4.cell (by simp <;> omega)).trans (by go_simp)
  go_wp2_with fail
  refine (predict08_any _ _ _).mono ?_
  rw [ex08_pr]
  rintro e w5 ⟨rfl, hb5⟩
  have hB5 : Below w.heap.size w w5 := below_trans (by go_grown) hb5
  have z5 : w.heap.size ≤ w5.heap.size := hB5.size
  have k7 : w5.cell? ⟨w3.heap.size, 0, none⟩ = some (.int .i64 32768) := (hb5.cell (by simp <;> omega)).trans (by go_simp)
  have k8 : w5.cell? ⟨w3.heap.size, 1, none⟩ = some (.int .i64 2) := (hb5.cell (by simp <;> omega)).trans (by go_simp)
  go_wp2
  go_returns
  exact ⟨rfl, hB5⟩

set_option maxHeartbeats 400000 in
theorem counterUpdates_any (p n bit limit : Int) (w : World) : Calls Try.prog 4 #[.agg #[.int .i64 p, .int .i64 n], .int .i64 bit, .int .i64 limit] w fun e w' => e = .returned (.bool true) ∧ Below w.heap.size w w' := by
  go_enter Try.func4, Try.ntmps4
  go_wp2_with fail
  refine (update08_any _ _ _ _ _).mono ?_
  unfold S08.updateV
  rintro e w1 ⟨rfl, hb1⟩
  have hB1 : Below w.heap.size w w1 := below_trans (by go_grown) hb1
  have z1 : w.heap.size ≤ w1.heap.size := hB1.size
  have s01 : w.heap.size < w1.heap.size := by have := hb1.size; simp at this; omega
  have k9 : w1.cell? ⟨w.heap.size, 0, none⟩ = some (.int .i64 p) := (hb1.cell (by simp <;> omega)).trans (by go_simp)
  have k10 : w1.cell? ⟨w.heap.size, 1, none⟩ = some (.int .i64 n) := (hb1.cell (by simp <;> omega)).trans (by go_simp)
  go_wp2_with fail
  refine (refUpdate08_any _ _ _ _ _).mono ?_
  unfold S08.updateV
  rintro e w2 ⟨rfl, hb2⟩
  have hB2 : Below w.heap.size w w2 := below_trans (by go_grown) hb2
  have z2 : w.heap.size ≤ w2.heap.size := hB2.size
  have s12 : w1.heap.size < w2.heap.size := by have := hb2.size; simp at this; omega
  have k11 : w2.cell? ⟨w1.heap.size, 0, none⟩ = some (.int .i64 (S08.updateP p n bit limit)) := (hb2.cell (by simp <;> omega)).trans (by go_simp)
  have k12 : w2.cell? ⟨w1.heap.size, 1, none⟩ = some (.int .i64 (S08.updateN p n bit limit)) := (hb2.cell (by simp <;> omega)).trans (by go_simp)
  go_wp2_with fail
  refine (awake08_any _).mono ?_
  rintro e w3 ⟨rfl, hb3⟩
  have hB3 : Below w.heap.size w w3 := below_trans (by go_grown) hb3
  have z3 : w.heap.size ≤ w3.heap.size := hB3.size
  have k13 : w3.cell? ⟨w1.heap.size, 0, none⟩ = some (.int .i64 (S08.updateP p n bit limit)) := (hb3.cell (by simp <;> omega)).trans (by go_simp)
  have k14 : w3.cell? ⟨w1.heap.size, 1, none⟩ = some (.int .i64 (S08.updateN p n bit limit)) := (hb3.cell (by simp <;> omega)).trans (by go_simp)
  have k15 : w3.cell? ⟨w2.heap.size, 0, none⟩ = some (.int .i64 (S08.updateP p n bit limit)) := (hb3.cell (by simp <;> omega)).trans (by go_simp)
  have k16 : w3.cell? ⟨w2.heap.size, 1, none⟩ = some (.int .i64 (S08.updateN p n bit limit)) := (hb3.cell (by simp <;> omega)).trans (by go_simp)
  go_wp2
  go_returns
  exact ⟨rfl, hB3⟩

set_option maxHeartbeats 400000 in
theorem counterMakes_any (x n p limit : Int) (w : World) : Calls Try.prog 3 #[.agg #[.int .i64 x, .int .i64 n], .int .i64 p, .int .i64 limit] w fun e w' => e = .returned (.bool true) ∧ Below w.heap.size w w' := by
  obtain ⟨q, n0, er, hv⟩ : ∃ q n0 er : Int, S08.newV p = .tuple #[.agg #[.int .i64 q, .int .i64 n0], .int .i64 er] := by
    unfold S08.newV; split
    · exact ⟨_, _, _, rfl⟩
    · exact ⟨_, _, _, rfl⟩
  have Hv := Lib.hid hv
  clear hv
  go_enter Try.func3, Try.ntmps3
  go_wp2_with fail
  refine (new08_any _ _).mono ?_
  rw [Hv.out]
  rintro e w1 ⟨rfl, hb1⟩
  have hB1 : Below w.heap.size w w1 := below_trans (by go_grown) hb1
  have z1 : w.heap.size ≤ w1.heap.size := hB1.size
  have s01 : w.heap.size < w1.heap.size := by have := hb1.size; simp at this; omega
  have k17 : w1.cell? ⟨w.heap.size, 0, none⟩ = some (.int .i64 x) := (hb1.cell (by simp <;> omega)).trans (by go_simp)
  have k18 : w1.cell? ⟨w.heap.size, 1, none⟩ = some (.int .i64 n) := (hb1.cell (by simp <;> omega)).trans (by go_simp)
  go_wp2_with fail
  refine (refNew08_any _ _).mono ?_
  rw [Hv.out]
  rintro e w2 ⟨rfl, hb2⟩
  have hB2 : Below w.heap.size w w2 := below_trans (by go_grown) hb2
  have z2 : w.heap.size ≤ w2.heap.size := hB2.size
  have s12 : w1.heap.size < w2.heap.size := by have := hb2.size; simp at this; omega
  have s02 : w.heap.size < w2.heap.size := by omega
  have k19 : w2.cell? ⟨w.heap.size, 0, none⟩ = some (.int .i64 x) := (hb2.cell (by simp <;> omega)).trans (by go_simp)
  have k20 : w2.cell? ⟨w.heap.size, 1, none⟩ = some (.int .i64 n) := (hb2.cell (by simp <;> omega)).trans (by go_simp)
  have k21 : w2.cell? ⟨w1.heap.size, 0, none⟩ = some (.int .i64 q) := (hb2.cell (by simp <;> omega)).trans (by go_simp)
  have k22 : w2.cell? ⟨w1.heap.size, 1, none⟩ = some (.int .i64 n0) := (hb2.cell (by simp <;> omega)).trans (by go_simp)
  go_wp2
  refine wp_region_all 28 (Keeps (w2.alloc (Obj.cells #[.int .i64 q, .int .i64 n0] 23)) [(⟨w.heap.size, 0, none⟩, .int .i64 x), (⟨w.heap.size, 1, none⟩, .int .i64 n), (⟨w1.heap.size, 0, none⟩, .int .i64 q), (⟨w1.heap.size, 1, none⟩, .int .i64 n0), (⟨w2.heap.size, 0, none⟩, .int .i64 q), (⟨w2.heap.size, 1, none⟩, .int .i64 n0)]) (by kernel_rfl) rfl (by kernel_rfl) (Keeps.start (by simp only [Cells]; refine ⟨?_, ?_, ?_, ?_, ?_, ?_, trivial⟩ <;> go_simp)) (fun Y F hY hF => ?_)
  apply wpSteady_call (by first | rfl | (rw [hY]; rfl))
  · intro w2 ⟨hB2, hk2⟩
    simp only [Cells] at hk2
    go_simp
    with_reducible exact ⟨rfl, rfl⟩
  · intro w2 hS2
    have hk2 := hS2.2
    simp only [Cells] at hk2
    refine (awake08_any _).mono ?_
    rintro e w3 ⟨rfl, hb3⟩
    exact ⟨rfl, hS2.step hb3⟩
  simp only [Act.put, List.setIfInBounds_toArray, List.set_cons_zero, List.set_cons_succ]
  repeat
    apply wpSteady_value (by first | rfl | (rw [hY]; rfl))
    · intro w2 ⟨hB2, hk2⟩
      simp only [Cells] at hk2
      go_simp
      with_reducible rfl
    simp only [Act.put, List.setIfInBounds_toArray, List.set_cons_zero, List.set_cons_succ]
  apply wpSteady_call (by first | rfl | (rw [hY]; rfl))
  · intro w2 ⟨hB2, hk2⟩
    simp only [Cells] at hk2
    go_simp
    with_reducible exact ⟨rfl, rfl⟩
  · intro w2 hS2
    have hk2 := hS2.2
    simp only [Cells] at hk2
    refine (check08_any _ _ _ _).mono ?_
    rintro e w3 ⟨rfl, hb3⟩
    exact ⟨rfl, hS2.step hb3⟩
  simp only [Act.put, List.setIfInBounds_toArray, List.set_cons_zero, List.set_cons_succ]
  repeat
    apply wpSteady_value (by first | rfl | (rw [hY]; rfl))
    · intro w2 ⟨hB2, hk2⟩
      simp only [Cells] at hk2
      go_simp
      with_reducible rfl
    simp only [Act.put, List.setIfInBounds_toArray, List.set_cons_zero, List.set_cons_succ]
  apply wpSteady_call (by first | rfl | (rw [hY]; rfl))
  · intro w2 ⟨hB2, hk2⟩
    simp only [Cells] at hk2
    go_simp
    with_reducible exact ⟨rfl, rfl⟩
  · intro w2 hS2
    have hk2 := hS2.2
    simp only [Cells] at hk2
    refine (refCheck08_any _ _ _ _).mono ?_
    rintro e w3 ⟨rfl, hb3⟩
    exact ⟨rfl, hS2.step hb3⟩
  simp only [Act.put, List.setIfInBounds_toArray, List.set_cons_zero, List.set_cons_succ]
  repeat
    apply wpSteady_value (by first | rfl | (rw [hY]; rfl))
    · intro w2 ⟨hB2, hk2⟩
      simp only [Cells] at hk2
      go_simp
      with_reducible rfl
    simp only [Act.put, List.setIfInBounds_toArray, List.set_cons_zero, List.set_cons_succ]
  apply wpSteady_call (by first | rfl | (rw [hY]; rfl))
  · intro w2 ⟨hB2, hk2⟩
    simp only [Cells] at hk2
    go_simp
    with_reducible exact ⟨rfl, rfl⟩
  · intro w2 hS2
    have hk2 := hS2.2
    simp only [Cells] at hk2
    refine (predict08_any _ _ _).mono ?_
    rintro e w3 ⟨rfl, hb3⟩
    exact ⟨rfl, hS2.step hb3⟩
  simp only [Act.put, List.setIfInBounds_toArray, List.set_cons_zero, List.set_cons_succ]
  repeat
    apply wpSteady_value (by first | rfl | (rw [hY]; rfl))
    · intro w2 ⟨hB2, hk2⟩
      simp only [Cells] at hk2
      go_simp
      with_reducible rfl
    simp only [Act.put, List.setIfInBounds_toArray, List.set_cons_zero, List.set_cons_succ]
  apply wpSteady_call (by first | rfl | (rw [hY]; rfl))
  · intro w2 ⟨hB2, hk2⟩
    simp only [Cells] at hk2
    go_simp
    with_reducible exact ⟨rfl, rfl⟩
  · intro w2 hS2
    have hk2 := hS2.2
    simp only [Cells] at hk2
    refine (refPredict08_any _ _ _).mono ?_
    rintro e w3 ⟨rfl, hb3⟩
    exact ⟨rfl, hS2.step hb3⟩
  simp only [Act.put, List.setIfInBounds_toArray, List.set_cons_zero, List.set_cons_succ]
  repeat
    apply wpSteady_value (by first | rfl | (rw [hY]; rfl))
    · intro w2 ⟨hB2, hk2⟩
      simp only [Cells] at hk2
      go_simp
      with_reducible rfl
    simp only [Act.put, List.setIfInBounds_toArray, List.set_cons_zero, List.set_cons_succ]
  refine hF.out _ (fun w4 hS4 => ?_)
  clear hF hY
  have hB4 : Below w.heap.size w w4 := below_trans (by go_grown) hS4.1
  go_wp2
  go_returns
  exact ⟨rfl, hB4⟩

end Go.Proofs.Ytgeebnpnjimcjaa
