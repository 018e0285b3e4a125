/- (W06a without fixed.chance, for seats that do not reach it.) What the functions of layer 6 (fixed) and its reference return: limits, probabilities of evidence. No condition. -/
import Derived.Test.YtkpkkbpfcchgaaaRows
import Derived.Test.YtkpkkbpfcchgaaaBase2
import Derived.Test.YtkpkkbpfcchgaaaSpec06
import Derived.WalkKit
import Derived.WalkSpells
import Derived.WalkLawsBesides
import Derived.Handy
import Derived.Deep.Light
import Derived.Deep.QuietTactic
import Derived.BigQuiet
import Derived.Lib.MinMax
set_option linter.unusedSimpArgs false
set_option linter.unusedVariables false
set_option linter.unusedSectionVars false
namespace Go.Proofs.Ytkpkkbpfcchgaaa
open Go.RowKit

theorem belowN {B : Nat} {a w : World} (h : Below B a w) (n : Nat) : Below B a (w.drewN n) := h.trans ⟨rfl, rfl, rfl, Nat.le_refl _, fun _ _ => rfl⟩

set_option maxHeartbeats 400000 in
theorem limit06_zero (x : Int) (w : World) : Calls Try.prog 45 #[.int .i64 x, .int .i64 0] w fun e w' => e = .returned (.int .i64 (S06.clip x)) ∧ Below w.heap.size w w' := by
  go_enter Try.func45, Try.ntmps45
  go_wp2
  go_quiet (fail)
  go_wp2
  go_returns
  refine ⟨rfl, belowN (by go_grown) _⟩

set_option maxHeartbeats 400000 in
theorem limit06_one (x : Int) (w : World) : Calls Try.prog 45 #[.int .i64 x, .int .i64 1] w fun e w' => e = .returned (.int .i64 (S06.chance x)) ∧ Below w.heap.size w w' := by
  go_enter Try.func45, Try.ntmps45
  go_wp2
  go_quiet (fail)
  go_wp2
  go_returns
  refine ⟨rfl, belowN (by go_grown) _⟩

theorem clip06_any (x : Int) (w : World) : Calls Try.prog 44 #[.int .i64 x] w fun e w' => e = .returned (.int .i64 (S06.clip x)) ∧ Below w.heap.size w w' := by
  go_enter Try.func44, Try.ntmps44
  go_wp2_with fail
  refine (limit06_zero _ _).mono ?_
  rintro e w1 ⟨rfl, hb1⟩
  have hB1 : Below w.heap.size w w1 := below_trans (by go_grown) hb1
  have z1 : w.heap.size ≤ w1.heap.size := hB1.size
  go_wp2
  go_returns
  exact ⟨rfl, hB1⟩

theorem S06.sqE_bounds (n : Nat) : S06.sqE n ≤ 65536 := by
  unfold S06.sqE
  exact Nat.le_trans (Nat.div_le_self _ _) (by omega)

theorem S06.sqE_int (n : Nat) : (65536 - 128 * ((n : Int) % 256)) / 2 ^ (n / 256) = (S06.sqE n : Int) := by
  unfold S06.sqE
  have hm := Nat.mod_lt n (show 0 < 256 by omega)
  rw [Int.natCast_ediv, Int.natCast_pow, Int.natCast_sub (by omega)]
  rfl

set_option maxHeartbeats 400000 in
theorem squash06_pos (x : Int) (w : World) (n : Nat) (hn : S06.clip x = n) (hn' : n ≤ 3071) : Calls Try.prog 33 #[.int .i64 x] w fun e w' => e = .returned (.int .i64 (S06.sqN n)) ∧ Below w.heap.size w w' := by
  have HC := Lib.hid fun W => clip06_any x W
  rw [hn] at HC
  clear hn
  have hm := Nat.mod_lt n (show 0 < 256 by omega)
  have hE := S06.sqE_int n
  have hEb := S06.sqE_bounds n
  have Hq := Lib.hid (show ((268435456 : Int) / (65536 + (S06.sqE n : Int))) = (S06.sqN n : Int) from (Int.natCast_ediv 268435456 (65536 + S06.sqE n)).symm)
  generalize S06.sqE n = E at *
  generalize S06.sqN n = Q at *
  go_enter Try.func33, Try.ntmps33
  go_wp2_with fail
  refine (HC.out _).mono ?_
  rintro e w1 ⟨rfl, hb1⟩
  have hB1 : Below w.heap.size w w1 := below_trans (by go_grown) hb1
  have z1 : w.heap.size ≤ w1.heap.size := hB1.size
  go_wp2
  go_returns
  exact ⟨ret_i64 Hq.out, hB1⟩

set_option maxHeartbeats 400000 in
theorem squash06_any (x : Int) (w : World) : Calls Try.prog 33 #[.int .i64 x] w fun e w' => e = .returned (.int .i64 (S06.squash x)) ∧ Below w.heap.size w w' := by
  have hb := S06.clip_bounds x
  by_cases hneg : S06.clip x < 0
  · have e : S06.squash x = 4096 - S06.sqN (-S06.clip x).toNat := by unfold S06.squash; rw [if_pos hneg]
    rw [e]
    have hq := S06.sqN_bounds (n := (-S06.clip x).toNat) (by omega)
    have HS := Lib.hid fun W => squash06_pos (-S06.clip x) W (-S06.clip x).toNat (by rw [S06.clip_in (by omega) (by omega)]; omega) (by omega)
    have HC := Lib.hid fun W => clip06_any x W
    clear e
    generalize S06.sqN (-S06.clip x).toNat = q at *
    generalize S06.clip x = c at *
    go_enter Try.func33, Try.ntmps33
    go_wp2_with fail
    refine (HC.out _).mono ?_
    rintro e w1 ⟨rfl, hb1⟩
    have hB1 : Below w.heap.size w w1 := below_trans (by go_grown) hb1
    have z1 : w.heap.size ≤ w1.heap.size := hB1.size
    go_wp2_with fail
    refine (HS.out _).mono ?_
    rintro e w2 ⟨rfl, hb2⟩
    have hB2 : Below w.heap.size w w2 := below_trans (by go_grown) hb2
    have z2 : w.heap.size ≤ w2.heap.size := hB2.size
    go_wp2
    go_returns
    exact ⟨rfl, hB2⟩
  · have e : S06.squash x = S06.sqN (S06.clip x).toNat := by unfold S06.squash; rw [if_neg hneg]
    rw [e]
    exact squash06_pos x w _ (by omega) (by omega)

/-! The reference. -/
theorem refBetween06_any (x a b : Int) (w : World) : Calls Try.prog 39 #[.int .i64 x, .int .i64 a, .int .i64 b] w fun e w' => e = .returned (.int .i64 (max a (min x b))) ∧ Below w.heap.size w w' := by
  go_enter Try.func39, Try.ntmps39
  go_wp2
  go_returns
  exact ⟨rfl, by go_grown⟩

theorem refClip06_any (x : Int) (w : World) : Calls Try.prog 23 #[.int .i64 x] w fun e w' => e = .returned (.int .i64 (S06.clip x)) ∧ Below w.heap.size w w' := by
  go_enter Try.func23, Try.ntmps23
  go_wp2_with fail
  refine (refBetween06_any _ _ _ _).mono ?_
  rintro e w1 ⟨rfl, hb1⟩
  have hB1 : Below w.heap.size w w1 := below_trans (by go_grown) hb1
  have z1 : w.heap.size ≤ w1.heap.size := hB1.size
  go_wp2
  go_returns
  exact ⟨rfl, hB1⟩

set_option maxHeartbeats 400000 in
theorem refSquash06_pos (x : Int) (w : World) (n : Nat) (hn : S06.clip x = n) (hn' : n ≤ 3071) : Calls Try.prog 37 #[.int .i64 x] w fun e w' => e = .returned (.int .i64 (S06.sqN n)) ∧ Below w.heap.size w w' := by
  have HC := Lib.hid fun W => refClip06_any x W
  rw [hn] at HC
  clear hn
  have hm := Nat.mod_lt n (show 0 < 256 by omega)
  have hEb := S06.sqE_bounds n
  have Hq := Lib.hid (show ((268435456 : Int) / (65536 + (S06.sqE n : Int))) = (S06.sqN n : Int) from (Int.natCast_ediv 268435456 (65536 + S06.sqE n)).symm)
  have HE := Lib.hid (show (65536 - 128 * (n % 256)) / 2 ^ (n / 256) = S06.sqE n from rfl)
  obtain ⟨A, hA⟩ : ∃ A : Nat, A = 65536 - 128 * (n % 256) := ⟨_, rfl⟩
  have hA2 : 65536 - 128 * ((n : Int) % 256) = (A : Int) := by omega
  have hA3 : A ≤ 65536 := by omega
  rw [← hA] at HE
  clear hA
  generalize S06.sqE n = E at *
  generalize S06.sqN n = Q at *
  go_enter Try.func37, Try.ntmps37
  go_wp2_with fail
  refine (HC.out _).mono ?_
  rintro e w1 ⟨rfl, hb1⟩
  have hB1 : Below w.heap.size w w1 := below_trans (by go_grown) hb1
  have z1 : w.heap.size ≤ w1.heap.size := hB1.size
  go_wp2
  go_loopw [3, 4] (fun e i wr => ∃ k : Nat, k ≤ n / 256 ∧ i = .int .i64 k ∧ e = .int .i64 (A / 2 ^ k : Nat) ∧ Below w.heap.size w wr) (fun _ i _ => n / 256 - (intOf i).toNat)
  case atStart => exact ⟨0, by omega, rfl, by simp, hB1⟩
  case round =>
    obtain ⟨k, hk, rfl, rfl, hB⟩ := hrel
    have hle : A / 2 ^ k ≤ 65536 := Nat.le_trans (Nat.div_le_self _ _) hA3
    by_cases hlt : k < n / 256
    · have Hs := Lib.hid (show A / 2 ^ k / 2 = A / 2 ^ (k + 1) by rw [Nat.div_div_eq_div_mul, Nat.pow_succ])
      have hlt2 : (k : Int) < (n : Int) / 256 := by omega
      generalize A / 2 ^ k = C at *
      go_wp2
      go_roundw
      case rel => exact ⟨k + 1, by omega, by go_num, by rw [← Hs.out]; go_num, hB⟩
      case measure => simp [intOf]; omega
    · obtain rfl : k = n / 256 := by omega
      have hlt2 : ¬ ((n / 256 : Nat) : Int) < (n : Int) / 256 := by omega
      rw [HE.out]
      go_wp2
      go_returns
      exact ⟨ret_i64 Hq.out, hB⟩

set_option maxHeartbeats 400000 in
theorem refSquash06_any (x : Int) (w : World) : Calls Try.prog 37 #[.int .i64 x] w fun e w' => e = .returned (.int .i64 (S06.squash x)) ∧ Below w.heap.size w w' := by
  have hb := S06.clip_bounds x
  by_cases hneg : S06.clip x < 0
  · have e : S06.squash x = 4096 - S06.sqN (-S06.clip x).toNat := by unfold S06.squash; rw [if_pos hneg]
    rw [e]
    have hq := S06.sqN_bounds (n := (-S06.clip x).toNat) (by omega)
    have HS := Lib.hid fun W => refSquash06_pos (-S06.clip x) W (-S06.clip x).toNat (by rw [S06.clip_in (by omega) (by omega)]; omega) (by omega)
    have HC := Lib.hid fun W => refClip06_any x W
    clear e
    generalize S06.sqN (-S06.clip x).toNat = q at *
    generalize S06.clip x = c at *
    go_enter Try.func37, Try.ntmps37
    go_wp2_with fail
    refine (HC.out _).mono ?_
    rintro e w1 ⟨rfl, hb1⟩
    have hB1 : Below w.heap.size w w1 := below_trans (by go_grown) hb1
    have z1 : w.heap.size ≤ w1.heap.size := hB1.size
    go_wp2_with fail
    refine (HS.out _).mono ?_
    rintro e w2 ⟨rfl, hb2⟩
    have hB2 : Below w.heap.size w w2 := below_trans (by go_grown) hb2
    have z2 : w.heap.size ≤ w2.heap.size := hB2.size
    go_wp2
    go_returns
    exact ⟨rfl, hB2⟩
  · have e : S06.squash x = S06.sqN (S06.clip x).toNat := by unfold S06.squash; rw [if_neg hneg]
    rw [e]
    exact refSquash06_pos x w _ (by omega) (by omega)
end Go.Proofs.Ytkpkkbpfcchgaaa
