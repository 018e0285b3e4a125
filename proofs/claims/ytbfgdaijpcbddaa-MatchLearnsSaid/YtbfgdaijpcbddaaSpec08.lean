/- Plain functions that say what layer 8 (counter) computes. No program, no condition. -/
import Derived.LoadGo2
set_option linter.unusedSimpArgs false
set_option linter.unusedVariables false
set_option linter.unusedSectionVars false
namespace Go.Proofs.Ytbfgdaijpcbddaa.S08

def check (p n limit : Int) : Int :=
  if limit < 1 ∨ 1023 < limit then 2 else if p < 0 ∨ 65535 < p ∨ n < 0 ∨ limit < n then 3 else 0

def predict (p n : Int) : Int := if p < 0 ∨ 65535 < p ∨ n < 0 then 0 else max (p / 16) 1

def step (p n bit : Int) : Int := p + (2 * (65535 * bit - p)).tdiv (2 * n + 3)

def newV (p : Int) : Value := if p < 0 ∨ 65535 < p then .tuple #[.agg #[.int .i64 0, .int .i64 0], .int .i64 2] else .tuple #[.agg #[.int .i64 p, .int .i64 0], .int .i64 0]

def updateE (p n bit limit : Int) : Int := if check p n limit ≠ 0 then check p n limit else if bit ≠ 0 ∧ bit ≠ 1 then 1 else 0
def updateP (p n bit limit : Int) : Int := if updateE p n bit limit ≠ 0 then 0 else step p n bit
def updateN (p n bit limit : Int) : Int := if updateE p n bit limit ≠ 0 then 0 else min (n + 1) limit
def updateV (p n bit limit : Int) : Value := .tuple #[.agg #[.int .i64 (updateP p n bit limit), .int .i64 (updateN p n bit limit)], .int .i64 (updateE p n bit limit)]

theorem updateV_err {p n bit limit : Int} (h : updateE p n bit limit ≠ 0) : updateV p n bit limit = .tuple #[.agg #[.int .i64 0, .int .i64 0], .int .i64 (updateE p n bit limit)] := by
  unfold updateV updateP updateN; rw [if_pos h, if_pos h]
theorem updateV_ok {p n bit limit : Int} (h : updateE p n bit limit = 0) : updateV p n bit limit = .tuple #[.agg #[.int .i64 (step p n bit), .int .i64 (min (n + 1) limit)], .int .i64 0] := by
  unfold updateV updateP updateN; rw [if_neg (by omega), if_neg (by omega), h]

theorem check_ok {p n limit : Int} (h : check p n limit = 0) : 1 ≤ limit ∧ limit ≤ 1023 ∧ 0 ≤ p ∧ p ≤ 65535 ∧ 0 ≤ n ∧ n ≤ limit := by
  unfold check at h; split at h
  · omega
  · split at h <;> omega

theorem tdiv_bounds (a d : Int) (hd : 0 < d) : (0 ≤ a → 0 ≤ a.tdiv d ∧ a.tdiv d * d ≤ a) ∧ (a ≤ 0 → a.tdiv d ≤ 0 ∧ a ≤ a.tdiv d * d) := by
  constructor
  · intro h
    rw [Int.tdiv_eq_ediv_of_nonneg h]
    exact ⟨Int.ediv_nonneg h (by omega), by rw [Int.mul_comm]; exact Int.mul_ediv_self_le (by omega)⟩
  · intro h
    have e : a.tdiv d = -((-a) / d) := by rw [← Int.tdiv_eq_ediv_of_nonneg (by omega), Int.neg_tdiv, Int.neg_neg]
    rw [e]
    have h1 : 0 ≤ (-a) / d := Int.ediv_nonneg (by omega) (by omega)
    have h2 : d * ((-a) / d) ≤ -a := Int.mul_ediv_self_le (by omega)
    refine ⟨by omega, ?_⟩
    rw [Int.neg_mul, Int.mul_comm]; omega

/-- The step never goes beyond the bit's value. -/
theorem step_between {p n bit : Int} (hp : 0 ≤ p) (hp' : p ≤ 65535) (hn : 0 ≤ n) (hb : bit = 0 ∨ bit = 1) :
    (bit = 1 → p ≤ step p n bit ∧ step p n bit ≤ 65535) ∧ (bit = 0 → 0 ≤ step p n bit ∧ step p n bit ≤ p) := by
  have hd : 0 < 2 * n + 3 := by omega
  obtain ⟨h1, h2⟩ := tdiv_bounds (2 * (65535 * bit - p)) (2 * n + 3) hd
  unfold step
  generalize hq : (2 * (65535 * bit - p)).tdiv (2 * n + 3) = q at *
  refine ⟨fun hb1 => ?_, fun hb0 => ?_⟩
  · subst hb1
    obtain ⟨h3, h4⟩ := h1 (by omega)
    have : q * 3 ≤ q * (2 * n + 3) := Int.mul_le_mul_of_nonneg_left (by omega) h3
    omega
  · subst hb0
    obtain ⟨h3, h4⟩ := h2 (by omega)
    have : q * (2 * n + 3) ≤ q * 3 := Int.mul_le_mul_of_nonpos_left h3 (by omega)
    omega

end Go.Proofs.Ytbfgdaijpcbddaa.S08
