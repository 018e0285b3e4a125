/- Round (layer 6) and its reference, for numbers that are not too great. No condition. -/
import Derived.Test.YtkpkkbpfcchgaaaW06s
set_option linter.unusedSimpArgs false
set_option linter.unusedVariables false
set_option linter.unusedSectionVars false
namespace Go.Proofs.Ytkpkkbpfcchgaaa
open Go.RowKit

/-- A rounded quotient (d is positive). -/
def S06.round (n d : Int) : Int := if n < 0 then -((2 * -n + d) / (2 * d)) else (2 * n + d) / (2 * d)
theorem S06.round_mono {m n d : Int} (hd : 0 < d) (h : m ≤ n) : S06.round m d ≤ S06.round n d := by
  unfold S06.round
  have k : ∀ x : Int, 0 ≤ x → 0 ≤ (2 * x + d) / (2 * d) := fun x hx => Int.ediv_nonneg (by omega) (by omega)
  split
  · split
    · have := Int.ediv_le_ediv (c := 2 * d) (by omega) (show 2 * -n + d ≤ 2 * -m + d by omega)
      omega
    · have := k (-m) (by omega)
      have := k n (by omega)
      omega
  · rw [if_neg (by omega)]
    exact Int.ediv_le_ediv (by omega) (by omega)
theorem S06.round_zero {d : Int} (hd : 0 < d) : S06.round 0 d = 0 := by
  unfold S06.round
  rw [if_neg (by omega)]
  exact Int.ediv_eq_zero_of_lt (by omega) (by omega)
theorem S06.round_near {n d : Int} (hd : 0 < d) : 2 * d * S06.round n d - d ≤ 2 * n ∧ 2 * n ≤ 2 * d * S06.round n d + d := by
  unfold S06.round
  split
  · have h1 := Int.emod_add_mul_ediv (2 * -n + d) (2 * d)
    have h2 := Int.emod_nonneg (2 * -n + d) (show 2 * d ≠ 0 by omega)
    have h3 := Int.emod_lt_of_pos (2 * -n + d) (show 0 < 2 * d by omega)
    rw [Int.mul_neg]
    omega
  · have h1 := Int.emod_add_mul_ediv (2 * n + d) (2 * d)
    have h2 := Int.emod_nonneg (2 * n + d) (show 2 * d ≠ 0 by omega)
    have h3 := Int.emod_lt_of_pos (2 * n + d) (show 0 < 2 * d by omega)
    omega
theorem S06.round_neg {n d : Int} (hd : 0 < d) : S06.round (-n) d = -S06.round n d := by
  unfold S06.round
  by_cases h0 : n = 0
  · subst h0
    simp only [Int.neg_zero, Int.lt_irrefl, if_false]
    rw [Int.ediv_eq_zero_of_lt (by omega) (by omega)]; rfl
  · by_cases h : n < 0
    · rw [if_pos h, if_neg (by omega), Int.neg_neg]
    · rw [if_neg h, if_pos (by omega), Int.neg_neg]
theorem S06.round_abs {n d B : Int} (hd : 1 ≤ d) (h1 : -B ≤ n) (h2 : n ≤ B) : -B ≤ S06.round n d ∧ S06.round n d ≤ B := by
  have key : ∀ x : Int, 0 ≤ x → (2 * x + d) / (2 * d) ≤ x := fun x hx => by
    by_cases h0 : x = 0
    · subst h0; exact Int.le_of_eq (Int.ediv_eq_zero_of_lt (by omega) (by omega))
    · refine Int.lt_add_one_iff.1 (Int.ediv_lt_of_lt_mul (by omega) ?_)
      have e : (x + 1) * (2 * d) = 2 * (x * d) + 2 * d := by rw [Int.add_mul, Int.mul_left_comm, Int.one_mul]
      have : x * 1 ≤ x * d := Int.mul_le_mul_of_nonneg_left hd hx
      omega
  have pos : ∀ x : Int, 0 ≤ x → 0 ≤ (2 * x + d) / (2 * d) := fun x hx => Int.ediv_nonneg (by omega) (by omega)
  unfold S06.round
  split
  · have := key (-n) (by omega)
    have := pos (-n) (by omega)
    omega
  · have := key n (by omega)
    have := pos n (by omega)
    omega

set_option maxHeartbeats 400000 in
theorem limit06_two (x : Int) (w : World) (h1 : -1125899906842624 ≤ x) (h2 : x ≤ 1125899906842624) : Calls Try.prog 45 #[.int .i64 x, .int .i64 2] w fun e w' => e = .returned (.int .i64 x) ∧ Below w.heap.size w w' := by
  go_enter Try.func45, Try.ntmps45
  go_wp2
  go_quiet (fail)
  go_wp2
  go_returns
  refine ⟨ret_i64 (by omega), belowN (by go_grown) _⟩

set_option maxHeartbeats 400000 in
theorem round06_pos (n d : Int) (w : World) (h1 : 0 ≤ n) (h2 : n ≤ 1125899906842624) (hd : 1 ≤ d) (hd' : d ≤ 1048576) : Calls Try.prog 35 #[.int .i64 n, .int .i64 d] w fun e w' => e = .returned (.int .i64 ((2 * n + d) / (2 * d))) ∧ Below w.heap.size w w' := by
  have HL1 := Lib.hid fun W => limit06_two n W (by omega) (by omega)
  have HL2 := Lib.hid fun W => limit06_two d W (by omega) (by omega)
  have hne : (d == 0) = false := by simp; omega
  have hne2 : ¬ d = 0 := by omega
  have hlt : ¬ d < 0 := by omega
  have hlt2 : ¬ n < 0 := by omega
  have w1' : IntKind.i64.wrap (2 * n) = 2 * n := IntWalk.i64_in _ (by omega)
  have w2' : IntKind.i64.wrap (2 * n + d) = 2 * n + d := IntWalk.i64_in _ (by omega)
  have w3' : IntKind.i64.wrap (2 * d) = 2 * d := IntWalk.i64_in _ (by omega)
  have hq : (2 * n + d).tdiv (2 * d) = (2 * n + d) / (2 * d) := Int.tdiv_eq_ediv_of_nonneg (by omega)
  have hq1 : 0 ≤ (2 * n + d) / (2 * d) := Int.ediv_nonneg (by omega) (by omega)
  have hq2 : (2 * n + d) / (2 * d) ≤ 2 * n + d := Int.ediv_le_self _ (by omega)
  have w4' : IntKind.i64.wrap ((2 * n + d) / (2 * d)) = (2 * n + d) / (2 * d) := IntWalk.i64_in _ (by omega)
  go_enter Try.func35, Try.ntmps35
  go_wp2_with fail
  refine (HL1.out _).mono ?_
  rintro e w1 ⟨rfl, hb1⟩
  have hB1 : Below w.heap.size w w1 := below_trans (by go_grown) hb1
  have z1 : w.heap.size ≤ w1.heap.size := hB1.size
  go_wp2_with fail
  refine (HL2.out _).mono ?_
  rintro e w2 ⟨rfl, hb2⟩
  have hB2 : Below w.heap.size w w2 := below_trans (by go_grown) hb2
  have z2 : w.heap.size ≤ w2.heap.size := hB2.size
  go_wp2
  go_returns
  exact ⟨by first | rfl | exact ret_i64 (by omega), hB2⟩

set_option maxHeartbeats 400000 in
theorem round06_any (n d : Int) (w : World) (h1 : -1125899906842624 ≤ n) (h2 : n ≤ 1125899906842624) (hd : 1 ≤ d) (hd' : d ≤ 1048576) : Calls Try.prog 35 #[.int .i64 n, .int .i64 d] w fun e w' => e = .returned (.int .i64 (S06.round n d)) ∧ Below w.heap.size w w' := by
  by_cases hn : n < 0
  · have hr : S06.round n d = -((2 * -n + d) / (2 * d)) := by unfold S06.round; rw [if_pos hn]
    have hb := S06.round_abs (n := n) (d := d) (B := 1125899906842624) hd h1 h2
    rw [hr] at hb ⊢
    have HR := Lib.hid fun W => round06_pos (-n) d W (by omega) (by omega) hd hd'
    have HL1 := Lib.hid fun W => limit06_two n W (by omega) (by omega)
    have HL2 := Lib.hid fun W => limit06_two d W (by omega) (by omega)
    have hne : (d == 0) = false := by simp; omega
    have hlt : ¬ d < 0 := by omega
    clear hr
    generalize (2 * -n + d) / (2 * d) = q at *
    go_enter Try.func35, Try.ntmps35
    go_wp2_with fail
    refine (HL1.out _).mono ?_
    rintro e w1 ⟨rfl, hb1⟩
    have hB1 : Below w.heap.size w w1 := below_trans (by go_grown) hb1
    have z1 : w.heap.size ≤ w1.heap.size := hB1.size
    go_wp2_with fail
    refine (HL2.out _).mono ?_
    rintro e w2 ⟨rfl, hb2⟩
    have hB2 : Below w.heap.size w w2 := below_trans (by go_grown) hb2
    have z2 : w.heap.size ≤ w2.heap.size := hB2.size
    go_wp2_with fail
    refine (HR.out _).mono ?_
    rintro e w3 ⟨rfl, hb3⟩
    have hB3 : Below w.heap.size w w3 := below_trans (by go_grown) hb3
    have z3 : w.heap.size ≤ w3.heap.size := hB3.size
    go_wp2
    go_returns
    exact ⟨rfl, hB3⟩
  · have hr : S06.round n d = (2 * n + d) / (2 * d) := by unfold S06.round; rw [if_neg hn]
    rw [hr]
    exact round06_pos n d w (by omega) h2 hd hd'

set_option maxHeartbeats 400000 in
theorem refRound06_any (n d : Int) (w : World) (h1 : -1125899906842624 ≤ n) (h2 : n ≤ 1125899906842624) (hd : 1 ≤ d) (hd' : d ≤ 1048576) : Calls Try.prog 31 #[.int .i64 n, .int .i64 d] w fun e w' => e = .returned (.int .i64 (S06.round n d)) ∧ Below w.heap.size w w' := by
  have HL1 := Lib.hid fun W => refBetween06_any n (-9007199254740991) 9007199254740991 W
  have HL2 := Lib.hid fun W => refBetween06_any d (-9007199254740991) 9007199254740991 W
  rw [show max (-9007199254740991) (min n 9007199254740991) = n by omega] at HL1
  rw [show max (-9007199254740991) (min d 9007199254740991) = d by omega] at HL2
  have hne : (d == 0) = false := by simp; omega
  have hlt : ¬ d < 0 := by omega
  have hne2 : ¬ d = 0 := by omega
  have w3' : IntKind.i64.wrap (2 * d) = 2 * d := IntWalk.i64_in _ (by omega)
  by_cases hn : n < 0
  · have hr : S06.round n d = -((2 * -n + d) / (2 * d)) := by unfold S06.round; rw [if_pos hn]
    have hb := S06.round_abs (n := n) (d := d) (B := 1125899906842624) hd h1 h2
    rw [hr] at hb ⊢
    have w1' : IntKind.i64.wrap (-2 * n) = 2 * -n := by rw [show -2 * n = 2 * -n by omega]; exact IntWalk.i64_in _ (by omega)
    have w2' : IntKind.i64.wrap (2 * -n + d) = 2 * -n + d := IntWalk.i64_in _ (by omega)
    have hq : (2 * -n + d).tdiv (2 * d) = (2 * -n + d) / (2 * d) := Int.tdiv_eq_ediv_of_nonneg (by omega)
    have hq1 : 0 ≤ (2 * -n + d) / (2 * d) := Int.ediv_nonneg (by omega) (by omega)
    have w4' : IntKind.i64.wrap ((2 * -n + d) / (2 * d)) = (2 * -n + d) / (2 * d) := IntWalk.i64_in _ (by omega)
    clear hr
    go_enter Try.func31, Try.ntmps31
    go_wp2_with fail
    refine (HL1.out _).mono ?_
    rintro e w1 ⟨rfl, hb1⟩
    have hB1 : Below w.heap.size w w1 := below_trans (by go_grown) hb1
    have z1 : w.heap.size ≤ w1.heap.size := hB1.size
    go_wp2_with fail
    refine (HL2.out _).mono ?_
    rintro e w2 ⟨rfl, hb2⟩
    have hB2 : Below w.heap.size w w2 := below_trans (by go_grown) hb2
    have z2 : w.heap.size ≤ w2.heap.size := hB2.size
    go_wp2
    go_returns
    exact ⟨by first | rfl | exact ret_i64 (by omega), hB2⟩
  · have hr : S06.round n d = (2 * n + d) / (2 * d) := by unfold S06.round; rw [if_neg hn]
    rw [hr]
    have w1' : IntKind.i64.wrap (2 * n) = 2 * n := IntWalk.i64_in _ (by omega)
    have w2' : IntKind.i64.wrap (2 * n + d) = 2 * n + d := IntWalk.i64_in _ (by omega)
    have hq : (2 * n + d).tdiv (2 * d) = (2 * n + d) / (2 * d) := Int.tdiv_eq_ediv_of_nonneg (by omega)
    have hq1 : 0 ≤ (2 * n + d) / (2 * d) := Int.ediv_nonneg (by omega) (by omega)
    have hq2 : (2 * n + d) / (2 * d) ≤ 2 * n + d := Int.ediv_le_self _ (by omega)
    have w4' : IntKind.i64.wrap ((2 * n + d) / (2 * d)) = (2 * n + d) / (2 * d) := IntWalk.i64_in _ (by omega)
    clear hr
    go_enter Try.func31, Try.ntmps31
    go_wp2_with fail
    refine (HL1.out _).mono ?_
    rintro e w1 ⟨rfl, hb1⟩
    have hB1 : Below w.heap.size w w1 := below_trans (by go_grown) hb1
    have z1 : w.heap.size ≤ w1.heap.size := hB1.size
    go_wp2_with fail
    refine (HL2.out _).mono ?_
    rintro e w2 ⟨rfl, hb2⟩
    have hB2 : Below w.heap.size w w2 := below_trans (by go_grown) hb2
    have z2 : w.heap.size ≤ w2.heap.size := hB2.size
    go_wp2
    go_returns
    exact ⟨by first | rfl | exact ret_i64 (by omega), hB2⟩
end Go.Proofs.Ytkpkkbpfcchgaaa
