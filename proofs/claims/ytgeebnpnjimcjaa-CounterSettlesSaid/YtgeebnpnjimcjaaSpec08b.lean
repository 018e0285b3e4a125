/- Plain laws of layer 8 (counter): a greater probability stays one; equal bits settle. No program, no condition. -/
import Derived.Test.YtgeebnpnjimcjaaSpec08
set_option linter.unusedSimpArgs false
set_option linter.unusedVariables false
set_option linter.unusedSectionVars false
namespace Go.Proofs.Ytgeebnpnjimcjaa.S08

def towards' (p n target : Int) : Int := p + (2 * (target - p)).tdiv (2 * n + 3)

theorem ediv_shift {a d k : Int} (hd : 2 ≤ d) (hk : 0 ≤ k) : (a + 2 * k) / d ≤ a / d + k := by
  have h1 : a + 2 * k ≤ a + d * k := by have := Int.mul_le_mul_of_nonneg_right hd hk; omega
  have h2 : (a + d * k) / d = a / d + k := Int.add_mul_ediv_left a k (by omega)
  rw [← h2]
  exact Int.ediv_le_ediv (by omega) h1

theorem tdiv_shift {a d k : Int} (hd : 2 ≤ d) (hk : 0 ≤ k) : (a + 2 * k).tdiv d ≤ a.tdiv d + k := by
  have hneg : ∀ x : Int, x ≤ 0 → x.tdiv d = -((-x) / d) := fun x hx => by rw [← Int.tdiv_eq_ediv_of_nonneg (by omega), Int.neg_tdiv, Int.neg_neg]
  rcases Int.le_total 0 a with ha | ha
  · rw [Int.tdiv_eq_ediv_of_nonneg (by omega), Int.tdiv_eq_ediv_of_nonneg ha]
    exact ediv_shift hd hk
  · rcases Int.le_total (a + 2 * k) 0 with hb | hb
    · rw [hneg _ hb, hneg _ ha]
      have := ediv_shift (a := -(a + 2 * k)) hd hk
      rw [show -(a + 2 * k) + 2 * k = -a by omega] at this
      omega
    · rw [Int.tdiv_eq_ediv_of_nonneg hb, hneg _ ha]
      have h1 : (a + 2 * k) / d * d ≤ a + 2 * k := Int.ediv_mul_le _ (by omega)
      have h2 : (-a) / d * d ≤ -a := Int.ediv_mul_le _ (by omega)
      have h3 : 0 ≤ (a + 2 * k) / d := Int.ediv_nonneg hb (by omega)
      have h4 : 0 ≤ (-a) / d := Int.ediv_nonneg (by omega) (by omega)
      have h5 := Int.mul_le_mul_of_nonneg_left hd h3
      have h6 := Int.mul_le_mul_of_nonneg_left hd h4
      omega

/-- A greater P stays one that is not less. -/
theorem towards_mono {p q n t : Int} (hn : 0 ≤ n) (h : p ≤ q) : towards' p n t ≤ towards' q n t := by
  unfold towards'
  have := tdiv_shift (a := 2 * (t - q)) (d := 2 * n + 3) (k := q - p) (by omega) (by omega)
  rw [show 2 * (t - q) + 2 * (q - p) = 2 * (t - p) by omega] at this
  omega

theorem predict_mono {p q n : Int} (hp : 0 ≤ p) (h : p ≤ q) (hq : q ≤ 65535) (hn : 0 ≤ n) : predict p n ≤ predict q n := by
  unfold predict; rw [if_neg (by omega), if_neg (by omega)]
  have : p / 16 ≤ q / 16 := Int.ediv_le_ediv (by omega) h
  omega
theorem predict_pos {p n : Int} (hp : 0 ≤ p) (hq : p ≤ 65535) (hn : 0 ≤ n) : 1 ≤ predict p n := by
  unfold predict; rw [if_neg (by omega)]; omega

/-- The slowest way down with a limit of L. -/
def slow (L : Nat) : Nat → Nat → Nat
  | 0, p => p
  | k + 1, p => slow L k (p - 2 * p / (2 * L + 3))
theorem slow_all : ∀ L < 21, slow L 400 65535 ≤ L + 1 := by decide +kernel

theorem slow_step_mono {L p q : Nat} (h : p ≤ q) : p - 2 * p / (2 * L + 3) ≤ q - 2 * q / (2 * L + 3) := by
  have := tdiv_shift (a := -(2 * (q : Int))) (d := 2 * (L : Int) + 3) (k := q - p) (by omega) (by omega)
  rw [show -(2 * (q : Int)) + 2 * ((q : Int) - p) = -(2 * p) by omega, Int.neg_tdiv, Int.neg_tdiv, Int.tdiv_eq_ediv_of_nonneg (by omega), Int.tdiv_eq_ediv_of_nonneg (by omega)] at this
  have e1 : ((2 * p / (2 * L + 3) : Nat) : Int) = 2 * (p : Int) / (2 * (L : Int) + 3) := by push_cast; rfl
  have e2 : ((2 * q / (2 * L + 3) : Nat) : Int) = 2 * (q : Int) / (2 * (L : Int) + 3) := by push_cast; rfl
  have h1 : 2 * p / (2 * L + 3) ≤ p := by
    have := Nat.div_mul_le_self (2 * p) (2 * L + 3)
    have h3 : 2 * p / (2 * L + 3) * 2 ≤ 2 * p / (2 * L + 3) * (2 * L + 3) := Nat.mul_le_mul_left _ (by omega)
    omega
  have h2 : 2 * q / (2 * L + 3) ≤ q := by
    have := Nat.div_mul_le_self (2 * q) (2 * L + 3)
    have h3 : 2 * q / (2 * L + 3) * 2 ≤ 2 * q / (2 * L + 3) * (2 * L + 3) := Nat.mul_le_mul_left _ (by omega)
    omega
  omega

theorem slow_mono (L : Nat) : ∀ (k : Nat) {p q : Nat}, p ≤ q → slow L k p ≤ slow L k q
  | 0, _, _, h => h
  | k + 1, _, _, h => slow_mono L k (slow_step_mono h)

/-- One step down is at least as fast as the slowest. -/
theorem down_slow {L p n : Nat} (hn : n ≤ L) : towards' p n 0 = ((p - 2 * p / (2 * n + 3) : Nat) : Int) ∧ p - 2 * p / (2 * n + 3) ≤ p - 2 * p / (2 * L + 3) := by
  have h1 : 2 * p / (2 * n + 3) ≤ p := by
    have := Nat.div_mul_le_self (2 * p) (2 * n + 3)
    have h3 : 2 * p / (2 * n + 3) * 2 ≤ 2 * p / (2 * n + 3) * (2 * n + 3) := Nat.mul_le_mul_left _ (by omega)
    omega
  have h2 : 2 * p / (2 * L + 3) ≤ 2 * p / (2 * n + 3) := Nat.div_le_div_left (by omega) (by omega)
  refine ⟨?_, by omega⟩
  unfold towards'
  have e : 2 * ((0 : Int) - p) = -(2 * (p : Int)) := by omega
  rw [e, Int.neg_tdiv, Int.tdiv_eq_ediv_of_nonneg (by omega)]
  have e1 : ((2 * p / (2 * n + 3) : Nat) : Int) = 2 * (p : Int) / (2 * (n : Int) + 3) := by push_cast; rfl
  omega

end Go.Proofs.Ytgeebnpnjimcjaa.S08
