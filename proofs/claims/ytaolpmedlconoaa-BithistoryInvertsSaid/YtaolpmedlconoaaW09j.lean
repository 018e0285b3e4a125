/- What the reference of layer 9 returns: Next. No condition. -/
import Derived.Test.YtaolpmedlconoaaW09i
set_option linter.unusedSimpArgs false
set_option linter.unusedVariables false
set_option linter.unusedSectionVars false
namespace Go.Proofs.Ytaolpmedlconoaa
open Go.RowKit

/-- The reference's step: n of the same bits, c of the contrary ones, behind a bit. -/
def S09.rn (n c : Int) : Int := if c < n then min n (S09.bound c 0) else n
def S09.rc (n c : Int) : Int := if c < n then c else min c (S09.bound n 0)
theorem S09.ref_step : S09.allStates (fun s => decide (S09.rn (S09.hz s + 1) (S09.fade (S09.ho s)) = S09.z2 (S09.hz s) (S09.ho s) 0) && decide (S09.rc (S09.hz s + 1) (S09.fade (S09.ho s)) = S09.o2 (S09.hz s) (S09.ho s) 0) &&
    decide (S09.rn (S09.ho s + 1) (S09.fade (S09.hz s)) = S09.o2 (S09.hz s) (S09.ho s) 1) && decide (S09.rc (S09.ho s + 1) (S09.fade (S09.hz s)) = S09.z2 (S09.hz s) (S09.ho s) 1)) = true := by decide +kernel

set_option maxHeartbeats 1000000 in
theorem refNext09_zero (s z o l : Int) (w : World) (b1 : 0 ≤ z) (b2 : z ≤ 30) (b3 : 0 ≤ o) (b4 : o ≤ 30)
    (hL : ∀ W, Calls Try.prog 16 #[.int .i64 s] W fun e w' => e = .returned (.tuple #[.int .i64 z, .int .i64 o, .int .i64 l, .int .i64 0]) ∧ Below W.heap.size W w') :
    Calls Try.prog 11 #[.int .i64 s, .int .i64 0] w fun e w' => e = .returned (.tuple #[.int .i64 (S09.stateS (S09.rn (z + 1) (S09.fade o)) (S09.rc (z + 1) (S09.fade o)) 0), .int .i64 (S09.stateE (S09.rn (z + 1) (S09.fade o)) (S09.rc (z + 1) (S09.fade o)) 0)]) ∧ Below w.heap.size w w' := by
  have HL := Lib.hid hL
  clear hL
  have hfb := S09.fade_bounds b3 b4
  by_cases ho : 2 < o
  · have hfo : S09.fade o = 2 + (o - 2) / 3 := by unfold S09.fade; rw [if_pos ho, Int.tdiv_eq_ediv_of_nonneg (by omega)]
    rw [hfo] at hfb ⊢
    clear hfo
    by_cases hc : 2 + (o - 2) / 3 < z + 1
    · have e1 : S09.rn (z + 1) (2 + (o - 2) / 3) = min (z + 1) (S09.bound (2 + (o - 2) / 3) 0) := by unfold S09.rn; rw [if_pos hc]
      have e2 : S09.rc (z + 1) (2 + (o - 2) / 3) = 2 + (o - 2) / 3 := by unfold S09.rc; rw [if_pos hc]
      rw [e1, e2]
      clear e1 e2
      go_enter Try.func11, Try.ntmps11
      go_wp2_with fail
      refine (HL.out _).mono ?_
      rintro e w1 ⟨rfl, hb1⟩
      have hB1 : Below w.heap.size w w1 := below_trans (by go_grown) hb1
      have z1 : w.heap.size ≤ w1.heap.size := hB1.size
      go_wp2_with fail
      refine (refBound09_any _ _).mono ?_
      rintro e w2 ⟨rfl, hb2⟩
      have hB2 : Below w.heap.size w w2 := below_trans (by go_grown) hb2
      have z2 : w.heap.size ≤ w2.heap.size := hB2.size
      go_wp2_with fail
      refine (refState09_any _ _ _ _).mono ?_
      rintro e w3 ⟨rfl, hb3⟩
      have hB3 : Below w.heap.size w w3 := below_trans (by go_grown) hb3
      have z3 : w.heap.size ≤ w3.heap.size := hB3.size
      go_wp2
      go_returns
      exact ⟨rfl, hB3⟩
    · have e1 : S09.rn (z + 1) (2 + (o - 2) / 3) = z + 1 := by unfold S09.rn; rw [if_neg hc]
      have e2 : S09.rc (z + 1) (2 + (o - 2) / 3) = min (2 + (o - 2) / 3) (S09.bound (z + 1) 0) := by unfold S09.rc; rw [if_neg hc]
      rw [e1, e2]
      clear e1 e2
      go_enter Try.func11, Try.ntmps11
      go_wp2_with fail
      refine (HL.out _).mono ?_
      rintro e w1 ⟨rfl, hb1⟩
      have hB1 : Below w.heap.size w w1 := below_trans (by go_grown) hb1
      have z1 : w.heap.size ≤ w1.heap.size := hB1.size
      go_wp2_with fail
      refine (refBound09_any _ _).mono ?_
      rintro e w2 ⟨rfl, hb2⟩
      have hB2 : Below w.heap.size w w2 := below_trans (by go_grown) hb2
      have z2 : w.heap.size ≤ w2.heap.size := hB2.size
      go_wp2_with fail
      refine (refState09_any _ _ _ _).mono ?_
      rintro e w3 ⟨rfl, hb3⟩
      have hB3 : Below w.heap.size w w3 := below_trans (by go_grown) hb3
      have z3 : w.heap.size ≤ w3.heap.size := hB3.size
      go_wp2
      go_returns
      exact ⟨rfl, hB3⟩
  · have hfo : S09.fade o = o := by unfold S09.fade; rw [if_neg ho]
    rw [hfo] at hfb ⊢
    clear hfo
    by_cases hc : o < z + 1
    · have e1 : S09.rn (z + 1) o = min (z + 1) (S09.bound o 0) := by unfold S09.rn; rw [if_pos hc]
      have e2 : S09.rc (z + 1) o = o := by unfold S09.rc; rw [if_pos hc]
      rw [e1, e2]
      clear e1 e2
      go_enter Try.func11, Try.ntmps11
      go_wp2_with fail
      refine (HL.out _).mono ?_
      rintro e w1 ⟨rfl, hb1⟩
      have hB1 : Below w.heap.size w w1 := below_trans (by go_grown) hb1
      have z1 : w.heap.size ≤ w1.heap.size := hB1.size
      go_wp2_with fail
      refine (refBound09_any _ _).mono ?_
      rintro e w2 ⟨rfl, hb2⟩
      have hB2 : Below w.heap.size w w2 := below_trans (by go_grown) hb2
      have z2 : w.heap.size ≤ w2.heap.size := hB2.size
      go_wp2_with fail
      refine (refState09_any _ _ _ _).mono ?_
      rintro e w3 ⟨rfl, hb3⟩
      have hB3 : Below w.heap.size w w3 := below_trans (by go_grown) hb3
      have z3 : w.heap.size ≤ w3.heap.size := hB3.size
      go_wp2
      go_returns
      exact ⟨rfl, hB3⟩
    · have e1 : S09.rn (z + 1) o = z + 1 := by unfold S09.rn; rw [if_neg hc]
      have e2 : S09.rc (z + 1) o = min o (S09.bound (z + 1) 0) := by unfold S09.rc; rw [if_neg hc]
      rw [e1, e2]
      clear e1 e2
      go_enter Try.func11, Try.ntmps11
      go_wp2_with fail
      refine (HL.out _).mono ?_
      rintro e w1 ⟨rfl, hb1⟩
      have hB1 : Below w.heap.size w w1 := below_trans (by go_grown) hb1
      have z1 : w.heap.size ≤ w1.heap.size := hB1.size
      go_wp2_with fail
      refine (refBound09_any _ _).mono ?_
      rintro e w2 ⟨rfl, hb2⟩
      have hB2 : Below w.heap.size w w2 := below_trans (by go_grown) hb2
      have z2 : w.heap.size ≤ w2.heap.size := hB2.size
      go_wp2_with fail
      refine (refState09_any _ _ _ _).mono ?_
      rintro e w3 ⟨rfl, hb3⟩
      have hB3 : Below w.heap.size w w3 := below_trans (by go_grown) hb3
      have z3 : w.heap.size ≤ w3.heap.size := hB3.size
      go_wp2
      go_returns
      exact ⟨rfl, hB3⟩

set_option maxHeartbeats 1000000 in
theorem refNext09_one (s z o l : Int) (w : World) (b1 : 0 ≤ z) (b2 : z ≤ 30) (b3 : 0 ≤ o) (b4 : o ≤ 30)
    (hL : ∀ W, Calls Try.prog 16 #[.int .i64 s] W fun e w' => e = .returned (.tuple #[.int .i64 z, .int .i64 o, .int .i64 l, .int .i64 0]) ∧ Below W.heap.size W w') :
    Calls Try.prog 11 #[.int .i64 s, .int .i64 1] w fun e w' => e = .returned (.tuple #[.int .i64 (S09.stateS (S09.rc (o + 1) (S09.fade z)) (S09.rn (o + 1) (S09.fade z)) 1), .int .i64 (S09.stateE (S09.rc (o + 1) (S09.fade z)) (S09.rn (o + 1) (S09.fade z)) 1)]) ∧ Below w.heap.size w w' := by
  have HL := Lib.hid hL
  clear hL
  have hfb := S09.fade_bounds b1 b2
  by_cases ho : 2 < z
  · have hfo : S09.fade z = 2 + (z - 2) / 3 := by unfold S09.fade; rw [if_pos ho, Int.tdiv_eq_ediv_of_nonneg (by omega)]
    rw [hfo] at hfb ⊢
    clear hfo
    by_cases hc : 2 + (z - 2) / 3 < o + 1
    · have e1 : S09.rn (o + 1) (2 + (z - 2) / 3) = min (o + 1) (S09.bound (2 + (z - 2) / 3) 0) := by unfold S09.rn; rw [if_pos hc]
      have e2 : S09.rc (o + 1) (2 + (z - 2) / 3) = 2 + (z - 2) / 3 := by unfold S09.rc; rw [if_pos hc]
      rw [e1, e2]
      clear e1 e2
      go_enter Try.func11, Try.ntmps11
      go_wp2_with fail
      refine (HL.out _).mono ?_
      rintro e w1 ⟨rfl, hb1⟩
      have hB1 : Below w.heap.size w w1 := below_trans (by go_grown) hb1
      have z1 : w.heap.size ≤ w1.heap.size := hB1.size
      go_wp2_with fail
      refine (refBound09_any _ _).mono ?_
      rintro e w2 ⟨rfl, hb2⟩
      have hB2 : Below w.heap.size w w2 := below_trans (by go_grown) hb2
      have z2 : w.heap.size ≤ w2.heap.size := hB2.size
      go_wp2_with fail
      refine (refState09_any _ _ _ _).mono ?_
      rintro e w3 ⟨rfl, hb3⟩
      have hB3 : Below w.heap.size w w3 := below_trans (by go_grown) hb3
      have z3 : w.heap.size ≤ w3.heap.size := hB3.size
      go_wp2
      go_returns
      exact ⟨rfl, hB3⟩
    · have e1 : S09.rn (o + 1) (2 + (z - 2) / 3) = o + 1 := by unfold S09.rn; rw [if_neg hc]
      have e2 : S09.rc (o + 1) (2 + (z - 2) / 3) = min (2 + (z - 2) / 3) (S09.bound (o + 1) 0) := by unfold S09.rc; rw [if_neg hc]
      rw [e1, e2]
      clear e1 e2
      go_enter Try.func11, Try.ntmps11
      go_wp2_with fail
      refine (HL.out _).mono ?_
      rintro e w1 ⟨rfl, hb1⟩
      have hB1 : Below w.heap.size w w1 := below_trans (by go_grown) hb1
      have z1 : w.heap.size ≤ w1.heap.size := hB1.size
      go_wp2_with fail
      refine (refBound09_any _ _).mono ?_
      rintro e w2 ⟨rfl, hb2⟩
      have hB2 : Below w.heap.size w w2 := below_trans (by go_grown) hb2
      have z2 : w.heap.size ≤ w2.heap.size := hB2.size
      go_wp2_with fail
      refine (refState09_any _ _ _ _).mono ?_
      rintro e w3 ⟨rfl, hb3⟩
      have hB3 : Below w.heap.size w w3 := below_trans (by go_grown) hb3
      have z3 : w.heap.size ≤ w3.heap.size := hB3.size
      go_wp2
      go_returns
      exact ⟨rfl, hB3⟩
  · have hfo : S09.fade z = z := by unfold S09.fade; rw [if_neg ho]
    rw [hfo] at hfb ⊢
    clear hfo
    by_cases hc : z < o + 1
    · have e1 : S09.rn (o + 1) z = min (o + 1) (S09.bound z 0) := by unfold S09.rn; rw [if_pos hc]
      have e2 : S09.rc (o + 1) z = z := by unfold S09.rc; rw [if_pos hc]
      rw [e1, e2]
      clear e1 e2
      go_enter Try.func11, Try.ntmps11
      go_wp2_with fail
      refine (HL.out _).mono ?_
      rintro e w1 ⟨rfl, hb1⟩
      have hB1 : Below w.heap.size w w1 := below_trans (by go_grown) hb1
      have z1 : w.heap.size ≤ w1.heap.size := hB1.size
      go_wp2_with fail
      refine (refBound09_any _ _).mono ?_
      rintro e w2 ⟨rfl, hb2⟩
      have hB2 : Below w.heap.size w w2 := below_trans (by go_grown) hb2
      have z2 : w.heap.size ≤ w2.heap.size := hB2.size
      go_wp2_with fail
      refine (refState09_any _ _ _ _).mono ?_
      rintro e w3 ⟨rfl, hb3⟩
      have hB3 : Below w.heap.size w w3 := below_trans (by go_grown) hb3
      have z3 : w.heap.size ≤ w3.heap.size := hB3.size
      go_wp2
      go_returns
      exact ⟨rfl, hB3⟩
    · have e1 : S09.rn (o + 1) z = o + 1 := by unfold S09.rn; rw [if_neg hc]
      have e2 : S09.rc (o + 1) z = min z (S09.bound (o + 1) 0) := by unfold S09.rc; rw [if_neg hc]
      rw [e1, e2]
      clear e1 e2
      go_enter Try.func11, Try.ntmps11
      go_wp2_with fail
      refine (HL.out _).mono ?_
      rintro e w1 ⟨rfl, hb1⟩
      have hB1 : Below w.heap.size w w1 := below_trans (by go_grown) hb1
      have z1 : w.heap.size ≤ w1.heap.size := hB1.size
      go_wp2_with fail
      refine (refBound09_any _ _).mono ?_
      rintro e w2 ⟨rfl, hb2⟩
      have hB2 : Below w.heap.size w w2 := below_trans (by go_grown) hb2
      have z2 : w.heap.size ≤ w2.heap.size := hB2.size
      go_wp2_with fail
      refine (refState09_any _ _ _ _).mono ?_
      rintro e w3 ⟨rfl, hb3⟩
      have hB3 : Below w.heap.size w w3 := below_trans (by go_grown) hb3
      have z3 : w.heap.size ≤ w3.heap.size := hB3.size
      go_wp2
      go_returns
      exact ⟨rfl, hB3⟩

theorem S09.next_state {s : Int} (hf : S09.found s = true) : S09.stateS (S09.rn (S09.hz s + 1) (S09.fade (S09.ho s))) (S09.rc (S09.hz s + 1) (S09.fade (S09.ho s))) 0 = S09.nextS s 0 ∧
    S09.stateE (S09.rn (S09.hz s + 1) (S09.fade (S09.ho s))) (S09.rc (S09.hz s + 1) (S09.fade (S09.ho s))) 0 = 0 ∧
    S09.stateS (S09.rc (S09.ho s + 1) (S09.fade (S09.hz s))) (S09.rn (S09.ho s + 1) (S09.fade (S09.hz s))) 1 = S09.nextS s 1 ∧
    S09.stateE (S09.rc (S09.ho s + 1) (S09.fade (S09.hz s))) (S09.rn (S09.ho s + 1) (S09.fade (S09.hz s))) 1 = 0 := by
  have hn := S09.next_ok hf
  have hr : (S09.rn (S09.hz s + 1) (S09.fade (S09.ho s)) = S09.z2 (S09.hz s) (S09.ho s) 0 ∧ S09.rc (S09.hz s + 1) (S09.fade (S09.ho s)) = S09.o2 (S09.hz s) (S09.ho s) 0) ∧
      S09.rn (S09.ho s + 1) (S09.fade (S09.hz s)) = S09.o2 (S09.hz s) (S09.ho s) 1 ∧ S09.rc (S09.ho s + 1) (S09.fade (S09.hz s)) = S09.z2 (S09.hz s) (S09.ho s) 1 := by
    obtain ⟨h0, h1⟩ := S09.found_bounds hf
    obtain ⟨n, rfl⟩ := Int.eq_ofNat_of_zero_le h0
    have := S09.allStates_spec S09.ref_step (s := n) (by omega)
    simp only [Bool.and_eq_true, decide_eq_true_eq] at this
    exact ⟨this.1.1, this.1.2, this.2⟩
  obtain ⟨⟨r1, r2⟩, r3, r4⟩ := hr
  rw [r1, r2, r3, r4]
  refine ⟨?_, ?_, ?_, ?_⟩
  · simp [S09.stateS, S09.nextS, hf, S09.next]
  · simp [S09.stateE, hn.1]
  · simp [S09.stateS, S09.nextS, hf, S09.next]
  · simp [S09.stateE, hn.2]

theorem refNext09_any (s b : Int) (w : World) :
    Calls Try.prog 11 #[.int .i64 s, .int .i64 b] w fun e w' => e = .returned (.tuple #[.int .i64 (S09.nextS s b), .int .i64 (S09.nextE s b)]) ∧ Below w.heap.size w w' := by
  obtain ⟨b1, b2, b3, b4, b5, b6⟩ := S09.h_bounds s
  have hL := Lib.hid fun W => refCounts09_any s W
  cases hf : S09.found s with
  | false =>
    have e1 : S09.nextS s b = 0 := by simp [S09.nextS, hf]
    have e2 : S09.nextE s b = 2 := by simp [S09.nextE, hf]
    have e3 : S09.err s = 2 := by simp [S09.err, hf]
    rw [e3] at hL
    rw [e1, e2]
    clear e1 e2 e3 hf
    go_enter Try.func11, Try.ntmps11
    go_wp2_with fail
    refine (hL.out _).mono ?_
    rintro e w1 ⟨rfl, hb1⟩
    have hB1 : Below w.heap.size w w1 := below_trans (by go_grown) hb1
    have z1 : w.heap.size ≤ w1.heap.size := hB1.size
    go_wp2
    all_goals go_returns
    all_goals exact ⟨rfl, by go_grown⟩
  | true =>
    have hn := S09.next_state hf
    have e3 : S09.err s = 0 := by simp [S09.err, hf]
    rw [e3] at hL
    by_cases h0 : b = 0
    · subst h0
      have e2 : S09.nextE s 0 = 0 := by simp [S09.nextE, hf]
      have := refNext09_zero s _ _ _ w b1 b2 b3 b4 hL.out
      rw [hn.1, hn.2.1] at this
      rw [e2]
      exact this
    · by_cases h1 : b = 1
      · subst h1
        have e2 : S09.nextE s 1 = 0 := by simp [S09.nextE, hf]
        have := refNext09_one s _ _ _ w b1 b2 b3 b4 hL.out
        rw [hn.2.2.1, hn.2.2.2] at this
        rw [e2]
        exact this
      · have e1 : S09.nextS s b = 0 := by simp [S09.nextS, h0, h1]
        have e2 : S09.nextE s b = 1 := by simp [S09.nextE, hf, h0, h1]
        rw [e1, e2]
        have g : b < 0 ∨ (¬ b < 0 ∧ 1 < b) := by omega
        clear e1 e2 e3 hn hf h0 h1
        rcases g with g | ⟨g, g'⟩
        all_goals
          go_enter Try.func11, Try.ntmps11
          go_wp2_with fail
          refine (hL.out _).mono ?_
          rintro e w1 ⟨rfl, hb1⟩
          have hB1 : Below w.heap.size w w1 := below_trans (by go_grown) hb1
          have z1 : w.heap.size ≤ w1.heap.size := hB1.size
          go_wp2
          all_goals go_returns
          all_goals exact ⟨rfl, by go_grown⟩
end Go.Proofs.Ytaolpmedlconoaa
