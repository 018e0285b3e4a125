/- The laws BithistoryFollows and BithistoryMirrors at every input. No condition. -/
import Derived.Test.YtaolpmedlconoaaW09n
set_option linter.unusedSimpArgs false
set_option linter.unusedVariables false
set_option linter.unusedSectionVars false
namespace Go.Proofs.Ytaolpmedlconoaa
open Go.RowKit

theorem S09.chance_bounds {z o : Int} (h1 : 0 ≤ z) (h2 : z ≤ 30) (h3 : 0 ≤ o) (h4 : o ≤ 30) : 0 ≤ S09.chance z o ∧ S09.chance z o ≤ 65536 := by
  unfold S09.chance
  have hd : 0 < 2 * (z + o) + 2 := by omega
  refine ⟨Int.ediv_nonneg (by omega) (by omega), ?_⟩
  refine Int.le_of_lt_add_one (Int.ediv_lt_of_lt_mul hd ?_)
  have : (2 * o + 1) * 65536 ≤ (2 * (z + o) + 2) * 65536 := Int.mul_le_mul_of_nonneg_right (by omega) (by omega)
  omega

set_option maxHeartbeats 2000000 in
theorem bithistoryMirrors_any (a : Option Addr) (bs : List Bool) (cap : Nat) (w : World) (hlen : bs.length ≤ 9223372036854775807) (hrd : Rd w a (Bools bs)) :
    Calls Try.prog 6 #[.slice a bs.length cap] w fun e w' => e = .returned (.bool true) ∧ Below w.heap.size w w' := by
  by_cases hlong : 200 < bs.length
  · have hl3 : (200 : Int) < (bs.length : Int) := by omega
    go_enter Try.func6, Try.ntmps6
    go_wp2_with fail
    refine (awake09_any _).mono ?_
    rintro e w1 ⟨rfl, hb1⟩
    have hB1 : Below w.heap.size w w1 := below_trans (by go_grown) hb1
    have z1 : w.heap.size ≤ w1.heap.size := hB1.size
    go_wp2
    go_returns
    exact ⟨rfl, hB1⟩
  · have hl3 : ¬ (200 : Int) < (bs.length : Int) := by omega
    have H1 := Lib.hid (after09_any 0 a bs cap false w S09.found_zero hlen hrd)
    have H2 := Lib.hid fun (W : World) (hb : Below w.heap.size w W) => after09_any 0 a bs cap true W S09.found_zero hlen (hrd.step hb)
    have hf := S09.walk_found false bs 0 S09.found_zero
    have hf2 := S09.walk_found true bs 0 S09.found_zero
    have hb0 := S09.h_bounds (S09.walk false bs 0)
    have hm := S09.walk_mirror bs 0 0 S09.found_zero S09.found_zero (by rw [S09.zero_hist.1, S09.zero_hist.2.1]) (by rw [S09.zero_hist.1, S09.zero_hist.2.1])
    have HC1 := Lib.hid fun W => counts09_any (S09.walk false bs 0) W
    have HC2 := Lib.hid fun W => counts09_any (S09.walk true bs 0) W
    have HD1 := Lib.hid fun W => chance09_any (S09.walk false bs 0) W
    have HD2 := Lib.hid fun W => chance09_any (S09.walk true bs 0) W
    rw [S09.err_zero hf] at HC1 HD1
    rw [S09.err_zero hf2] at HC2 HD2
    simp only [hf, hf2, if_true] at HD1 HD2
    have hfact := (S09.step_fact hf).2.2.2.2
    have hlast : ((bs.length : Int) == 0) = true ∨ (((bs.length : Int) == 0) = false ∧ ¬ S09.hl (S09.walk false bs 0) = S09.hl (S09.walk true bs 0)) := by
      rcases Nat.eq_zero_or_pos bs.length with h | h
      · exact .inl (by simp [h])
      · right
        refine ⟨by simp; exact fun e => by simp [e] at h, ?_⟩
        obtain ⟨init, x, rfl⟩ := long_slice (bs := bs) (fun e => by rw [e] at h; simp at h)
        rw [S09.walk_last false init x 0 S09.found_zero, S09.walk_last true init x 0 S09.found_zero]
        cases x <;> decide
    clear hf hf2 hrd
    rw [← hm.1, ← hm.2] at HC2 HD2
    clear hm
    generalize S09.walk false bs 0 = s at *
    generalize S09.walk true bs 0 = t at *
    generalize S09.hz s = z at *
    generalize S09.ho s = o at *
    generalize S09.hl s = l at *
    generalize S09.hl t = l' at *
    obtain ⟨u1, u2, u3, u4, u5, u6⟩ := hb0
    have hc1 := S09.chance_bounds u1 u2 u3 u4
    have hc2 := S09.chance_bounds u3 u4 u1 u2
    generalize S09.chance z o = c at *
    generalize S09.chance o z = d at *
    obtain ⟨hsum, hcmp⟩ := hfact
    have hbeq : (decide (d < c) == decide (z < o)) = true := by rw [hcmp]; simp
    have Hcmp := Lib.hid hcmp
    clear hcmp
    have hs2 : c + d = 65536 ∨ (¬ c + d = 65536 ∧ c + d = 65535) := by omega
    rcases hlast with hl0 | ⟨hl0, hl1⟩
    all_goals
      rcases hs2 with hs2 | ⟨hs2, hs3⟩
      all_goals
        go_enter Try.func6, Try.ntmps6
        go_wp2_with fail
        refine (H1.out).mono ?_
        rintro e w1 ⟨rfl, hb1⟩
        have hB1 : Below w.heap.size w w1 := below_trans (by go_grown) hb1
        have z1 : w.heap.size ≤ w1.heap.size := hB1.size
        go_wp2_with fail
        refine (H2.out _ hb1).mono ?_
        rintro e w2 ⟨rfl, hb2⟩
        have hB2 : Below w.heap.size w w2 := below_trans (by go_grown) hb2
        have z2 : w.heap.size ≤ w2.heap.size := hB2.size
        go_wp2_with fail
        refine (HC1.out _).mono ?_
        rintro e w3 ⟨rfl, hb3⟩
        have hB3 : Below w.heap.size w w3 := below_trans (by go_grown) hb3
        have z3 : w.heap.size ≤ w3.heap.size := hB3.size
        go_wp2_with fail
        refine (HC2.out _).mono ?_
        rintro e w4 ⟨rfl, hb4⟩
        have hB4 : Below w.heap.size w w4 := below_trans (by go_grown) hb4
        have z4 : w.heap.size ≤ w4.heap.size := hB4.size
        go_wp2_with fail
        refine (HD1.out _).mono ?_
        rintro e w5 ⟨rfl, hb5⟩
        have hB5 : Below w.heap.size w w5 := below_trans (by go_grown) hb5
        have z5 : w.heap.size ≤ w5.heap.size := hB5.size
        go_wp2_with fail
        refine (HD2.out _).mono ?_
        rintro e w6 ⟨rfl, hb6⟩
        have hB6 : Below w.heap.size w w6 := below_trans (by go_grown) hb6
        have z6 : w.heap.size ≤ w6.heap.size := hB6.size
        go_wp2_with fail
        refine (awake09_any _).mono ?_
        rintro e w7 ⟨rfl, hb7⟩
        have hB7 : Below w.heap.size w w7 := below_trans (by go_grown) hb7
        have z7 : w.heap.size ≤ w7.heap.size := hB7.size
        go_wp2
        go_returns
        exact ⟨by first | rfl | exact ret_bool (by simpa using hl1), hB7⟩
end Go.Proofs.Ytaolpmedlconoaa
