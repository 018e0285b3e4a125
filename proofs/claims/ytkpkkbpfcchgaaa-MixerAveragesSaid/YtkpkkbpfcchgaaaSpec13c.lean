/- The plain law of layer 13: a new mixer averages. No program in sight. -/
import Derived.Test.YtkpkkbpfcchgaaaSpec13b
set_option linter.unusedSimpArgs false
set_option linter.unusedVariables false
set_option linter.unusedSectionVars false
namespace Go.Proofs.Ytkpkkbpfcchgaaa

theorem S13.sum_rep (u v : Int) : ∀ n : Nat, S13.sum (List.replicate n u) (List.replicate n v) = (n : Int) * (u * v)
  | 0 => by simp [S13.sum]
  | n + 1 => by
    rw [List.replicate_succ, List.replicate_succ, S13.sum, S13.sum_rep u v n]
    rw [show ((n + 1 : Nat) : Int) = (n : Int) + 1 by omega, Int.add_mul, Int.one_mul, Int.add_comm]
/-- Equal inputs lead to themselves, nearly. -/
theorem S13.averages {n : Nat} (h1 : 1 ≤ n) (h2 : n ≤ 16) {v : Int} (hv : -3071 ≤ v ∧ v ≤ 3071) :
    v - 1 ≤ S13.mix (List.replicate n (65536 / (n : Int))) (List.replicate n v) ∧ S13.mix (List.replicate n (65536 / (n : Int))) (List.replicate n v) ≤ v + 1 := by
  have hs := S13.sum_rep (65536 / (n : Int)) v n
  have he : (n : Int) * (65536 / (n : Int)) = 65536 - 65536 % (n : Int) := by have := Int.emod_add_mul_ediv 65536 (n : Int); omega
  have hm0 := Int.emod_nonneg 65536 (show (n : Int) ≠ 0 by omega)
  have hm1 := Int.emod_lt_of_pos 65536 (show (0 : Int) < n by omega)
  rw [← Int.mul_assoc, he, Int.sub_mul] at hs
  have hb := S13.mul_abs (a := 65536 % (n : Int)) (b := v) (A := 15) (B := 3071) (by omega) (by omega) hv.1 hv.2
  have hn := S06.round_near (n := S13.sum (List.replicate n (65536 / (n : Int))) (List.replicate n v)) (d := 65536) (by omega)
  unfold S13.mix S06.clip
  generalize S06.round (S13.sum (List.replicate n (65536 / (n : Int))) (List.replicate n v)) 65536 = r at *
  generalize S13.sum (List.replicate n (65536 / (n : Int))) (List.replicate n v) = s at *
  generalize 65536 % (n : Int) * v = e at *
  omega
theorem S13.mix_zero (u : Int) (n : Nat) : S13.mix (List.replicate n u) (List.replicate n 0) = 0 := by
  unfold S13.mix
  rw [S13.sum_rep, Int.mul_zero, Int.mul_zero, S06.round_zero (by omega)]
  rfl
theorem S13.learnRow_zero (d rate u : Int) (hu : -1048576 ≤ u ∧ u ≤ 1048576) : ∀ n : Nat, S13.learnRow d rate (List.replicate n u) (List.replicate n 0) = List.replicate n u
  | 0 => by simp [S13.learnRow]
  | n + 1 => by
    rw [List.replicate_succ, List.replicate_succ, S13.learnRow, S13.learnRow_zero d rate u hu n]
    congr 1
    unfold S13.lw
    rw [Int.zero_mul, Int.zero_mul, S06.round_zero (by omega)]
    omega
def S13.one (n : Nat) : List (List Int) := [List.replicate n (65536 / (n : Int))]
theorem S13.unit_bounds {n : Nat} (h1 : 1 ≤ n) : 0 ≤ 65536 / (n : Int) ∧ 65536 / (n : Int) ≤ 65536 := ⟨Int.ediv_nonneg (by omega) (by omega), Int.ediv_le_self _ (by omega)⟩
theorem S13.one_check {n : Nat} (h1 : 1 ≤ n) (h2 : n ≤ 16) : S13.check 16 n (S13.one n) = 0 := by
  have hu := S13.unit_bounds h1
  refine S13.check_of (by omega) (by omega) (by simp [S13.one]) (by simp [S13.one]) fun l hl => ?_
  rw [S13.one, List.mem_singleton] at hl
  subst hl
  refine ⟨by simp, ?_⟩
  rw [List.any_eq_false]
  intro x hx
  have := List.eq_of_mem_replicate hx
  subst this
  simp [S13.heavy]; omega
theorem S13.one_usable {n : Nat} (h1 : 1 ≤ n) (h2 : n ≤ 16) {v : Int} (hv : -3071 ≤ v ∧ v ≤ 3071) : S13.usable 16 n (S13.one n) 0 (List.replicate n v) = 0 := by
  unfold S13.usable
  rw [if_neg (by simpa using S13.one_check h1 h2), if_neg (by simp [S13.one]), if_neg (by simp), if_neg]
  intro h
  obtain ⟨x, hx, hs⟩ := List.any_eq_true.1 h
  have := List.eq_of_mem_replicate hx
  subst this
  simp [S13.strong] at hs; omega
theorem S13.one_learn {n : Nat} (h1 : 1 ≤ n) (bit rate : Int) : S13.learnL (S13.one n) 0 (List.replicate n 0) bit rate = S13.one n := by
  have hu := S13.unit_bounds h1
  unfold S13.learnL S13.one
  simp only [List.getD_cons_zero, List.set_cons_zero]
  rw [S13.learnRow_zero _ _ _ (by omega)]
end Go.Proofs.Ytkpkkbpfcchgaaa
