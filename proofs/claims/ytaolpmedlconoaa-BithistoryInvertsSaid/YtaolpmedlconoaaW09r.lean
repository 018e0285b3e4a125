/- State (layer 9), and the laws BithistoryStates and BithistoryInverts at every input. No condition. -/
import Derived.Test.YtaolpmedlconoaaW09q
set_option linter.unusedSimpArgs false
set_option linter.unusedVariables false
set_option linter.unusedSectionVars false
namespace Go.Proofs.Ytaolpmedlconoaa
open Go.RowKit Go.Maps

set_option maxHeartbeats 1000000 in
theorem state09_any (z o l : Int) (w : World) (wz : (Lit.int .i64 z).wf = true) (wo : (Lit.int .i64 o).wf = true) (wl : (Lit.int .i64 l).wf = true) :
    Calls Try.prog 22 #[.int .i64 z, .int .i64 o, .int .i64 l] w fun e w' => e = .returned (.tuple #[.int .i64 (S09.stateS z o l), .int .i64 (S09.stateE z o l)]) ∧ Below w.heap.size w w' := by
  by_cases hl : l = 0 ∨ l = 1
  · have hq : (((l : Int) != 0) = false) ∨ (((l : Int) != 0) = true ∧ ((l : Int) != 1) = false) := by
      rcases hl with rfl | rfl
      · left; rfl
      · right; exact ⟨rfl, rfl⟩
    have hall := S09.D_all wz wo wl
    have hkk := keyHist wz wo wl
    have HS := Lib.hid fun W => states09_any W
    cases hi : S09.is z o l with
    | true =>
      have e1 : S09.stateS z o l = S09.idx z o l := by simp [S09.stateS, hl]
      have e2 : S09.stateE z o l = 0 := by simp [S09.stateE, hl, hi]
      rw [e1, e2]
      rw [hi] at hall
      have Hhas := Lib.hid hall.1
      have Hat := Lib.hid (hall.2 rfl)
      have Hkk := Lib.hid hkk
      clear hall hkk hi e1 e2 wz wo wl hl
      generalize S09.idx z o l = x at *
      rcases hq with hq | ⟨hq, hq2⟩
      all_goals
        go_enter Try.func22, Try.ntmps22
        go_wp2_with fail
        refine (HS.out _).mono ?_
        rintro e w1 ⟨B, rfl, hown, hb1⟩
        have hB1 : Below w.heap.size w w1 := below_trans (by go_grown) hb1
        go_wp2_with (at_lookup; refine wpList_lookup_own_ok_int _ rfl _ _ 57 rfl 49 3 .i64 lawHist Try.underlying57 Try.underlying3 (zeroInt9 _) B 215 _ rfl hown _ _ rfl Hkk.out ?_; intro c hat hwc; rw [Hhas.out]; obtain rfl : c = x := (by have := Hat.out.symm.trans hat; simpa using this.symm); clear hat)
        go_returns
        exact ⟨rfl, hB1⟩
    | false =>
      have e1 : S09.stateS z o l = 0 := by simp [S09.stateS, S09.idx, hi]
      have e2 : S09.stateE z o l = 7 := by simp [S09.stateE, hl, hi]
      rw [e1, e2]
      rw [hi] at hall
      have Hhas := Lib.hid hall.1
      have Hkk := Lib.hid hkk
      clear hall hkk hi e1 e2 wz wo wl hl
      rcases hq with hq | ⟨hq, hq2⟩
      all_goals
        go_enter Try.func22, Try.ntmps22
        go_wp2_with fail
        refine (HS.out _).mono ?_
        rintro e w1 ⟨B, rfl, hown, hb1⟩
        have hB1 : Below w.heap.size w w1 := below_trans (by go_grown) hb1
        go_wp2_with (at_lookup; refine wpList_lookup_own_ok_int _ rfl _ _ 57 rfl 49 3 .i64 lawHist Try.underlying57 Try.underlying3 (zeroInt9 _) B 215 _ rfl hown _ _ rfl Hkk.out ?_; intro c hat hwc; rw [Hhas.out]; clear hat)
        go_returns
        exact ⟨rfl, hB1⟩
  · have e1 : S09.stateS z o l = 0 := by simp [S09.stateS, hl]
    have e2 : S09.stateE z o l = 1 := by simp [S09.stateE, hl]
    rw [e1, e2]
    have g1 : ((l : Int) != 0) = true := by simp; omega
    have g2 : ((l : Int) != 1) = true := by simp; omega
    clear e1 e2 hl
    go_enter Try.func22, Try.ntmps22
    go_wp2
    go_returns
    exact ⟨rfl, by go_grown⟩

set_option maxHeartbeats 1000000 in
theorem bithistoryStates_any (z o l : Int) (w : World) (wz : (Lit.int .i64 z).wf = true) (wo : (Lit.int .i64 o).wf = true) (wl : (Lit.int .i64 l).wf = true) :
    Calls Try.prog 8 #[.int .i64 z, .int .i64 o, .int .i64 l] w fun e w' => e = .returned (.bool true) ∧ Below w.heap.size w w' := by
  have H1 := Lib.hid fun W => state09_any z o l W wz wo wl
  have H2 := Lib.hid fun W => refState09_any z o l W
  generalize S09.stateS z o l = x at *
  generalize S09.stateE z o l = y at *
  go_enter Try.func8, Try.ntmps8
  go_wp2_with fail
  refine (H1.out _).mono ?_
  rintro e w1 ⟨rfl, hb1⟩
  have hB1 : Below w.heap.size w w1 := below_trans (by go_grown) hb1
  have z1 : w.heap.size ≤ w1.heap.size := hB1.size
  go_wp2_with fail
  refine (H2.out _).mono ?_
  rintro e w2 ⟨rfl, hb2⟩
  have hB2 : Below w.heap.size w w2 := below_trans (by go_grown) hb2
  have z2 : w.heap.size ≤ w2.heap.size := hB2.size
  go_wp2_with fail
  refine (awake09_any _).mono ?_
  rintro e w3 ⟨rfl, hb3⟩
  have hB3 : Below w.heap.size w w3 := below_trans (by go_grown) hb3
  have z3 : w.heap.size ≤ w3.heap.size := hB3.size
  go_wp2
  go_returns
  exact ⟨rfl, hB3⟩

/-- The state of what is found for a state is that state. -/
theorem S09.state_back {s : Int} (hf : S09.found s = true) : S09.stateS (S09.hz s) (S09.ho s) (S09.hl s) = s ∧ S09.stateE (S09.hz s) (S09.ho s) (S09.hl s) = 0 := by
  obtain ⟨h0, h1⟩ := S09.found_bounds hf
  obtain ⟨n, rfl⟩ := Int.eq_ofNat_of_zero_le h0
  have p := S09.allStates_spec S09.state_place (s := n) (by omega)
  simp only [Bool.and_eq_true, decide_eq_true_eq] at p
  have hk := p.1.2
  unfold S09.ok at hk
  have e1 : S09.hz n = ((S09.place n).1 : Int) - (S09.place n).2.1 := by simp [S09.hz, hf]
  have e2 : S09.ho n = (S09.place n).2.1 := by simp [S09.ho, hf]
  have e3 : S09.hl n = (S09.place n).2.2 := by simp [S09.hl, hf]
  have hl : S09.hl n = 0 ∨ S09.hl n = 1 := by rw [e3]; omega
  have hi : S09.is (S09.hz n) (S09.ho n) (S09.hl n) = true := by rw [e1, e2, e3]; exact hk
  refine ⟨?_, by simp [S09.stateE, hl, hi]⟩
  simp only [S09.stateS, if_pos hl, S09.idx, hi, if_true]
  have e4 : (S09.hz n + S09.ho n).toNat = (S09.place n).1 := by rw [e1, e2]; omega
  rw [e4, e2, e3, Int.toNat_natCast, Int.toNat_natCast, p.2]

set_option maxHeartbeats 1000000 in
theorem bithistoryInverts_any (s : Int) (w : World) (h0 : 0 ≤ s) (h1 : s ≤ 255) :
    Calls Try.prog 9 #[.int .u8 s] w fun e w' => e = .returned (.bool true) ∧ Below w.heap.size w w' := by
  have HC := Lib.hid fun W => counts09_any s W
  have HP := Lib.hid fun W => priority09_any s W
  obtain ⟨b1, b2, b3, b4, b5, b6⟩ := S09.h_bounds s
  cases hf : S09.found s with
  | false =>
    have hge : 215 ≤ s := by
      have := of_decide_eq_false hf
      omega
    have e4 : S09.err s = 2 := by simp [S09.err, hf]
    rw [e4] at HC
    simp only [hf] at HP
    clear e4 hf
    generalize S09.hz s = z at *
    generalize S09.ho s = o at *
    generalize S09.hl s = l at *
    go_enter Try.func9, Try.ntmps9
    go_wp2_with fail
    refine (HC.out _).mono ?_
    rintro e w1 ⟨rfl, hb1⟩
    have hB1 : Below w.heap.size w w1 := below_trans (by go_grown) hb1
    have z1 : w.heap.size ≤ w1.heap.size := hB1.size
    go_wp2_with fail
    refine (count09_any _).mono ?_
    rintro e w2 ⟨rfl, hb2⟩
    have hB2 : Below w.heap.size w w2 := below_trans (by go_grown) hb2
    have z2 : w.heap.size ≤ w2.heap.size := hB2.size
    go_wp2_with fail
    refine (HP.out _).mono ?_
    rintro e w3 ⟨rfl, hb3⟩
    have hB3 : Below w.heap.size w w3 := below_trans (by go_grown) hb3
    have z3 : w.heap.size ≤ w3.heap.size := hB3.size
    go_wp2_with fail
    refine (awake09_any _).mono ?_
    rintro e w4 ⟨rfl, hb4⟩
    have hB4 : Below w.heap.size w w4 := below_trans (by go_grown) hb4
    have z4 : w.heap.size ≤ w4.heap.size := hB4.size
    go_wp2
    go_returns
    exact ⟨rfl, hB4⟩
  | true =>
    have hlt : ¬ 215 ≤ s := by
      have := S09.found_bounds hf
      omega
    have e4 : S09.err s = 0 := by simp [S09.err, hf]
    rw [e4] at HC
    simp only [hf, if_true] at HP
    have hback := S09.state_back hf
    have HS := Lib.hid fun W => state09_any (S09.hz s) (S09.ho s) (S09.hl s) W (S09.wf_small (by omega) (by omega)) (S09.wf_small (by omega) (by omega)) (S09.wf_small (by omega) (by omega))
    rw [hback.1, hback.2] at HS
    clear e4 hf hback
    generalize S09.hz s = z at *
    generalize S09.ho s = o at *
    generalize S09.hl s = l at *
    go_enter Try.func9, Try.ntmps9
    go_wp2_with fail
    refine (HC.out _).mono ?_
    rintro e w1 ⟨rfl, hb1⟩
    have hB1 : Below w.heap.size w w1 := below_trans (by go_grown) hb1
    have z1 : w.heap.size ≤ w1.heap.size := hB1.size
    go_wp2_with fail
    refine (count09_any _).mono ?_
    rintro e w2 ⟨rfl, hb2⟩
    have hB2 : Below w.heap.size w w2 := below_trans (by go_grown) hb2
    have z2 : w.heap.size ≤ w2.heap.size := hB2.size
    go_wp2_with fail
    refine (HS.out _).mono ?_
    rintro e w3 ⟨rfl, hb3⟩
    have hB3 : Below w.heap.size w w3 := below_trans (by go_grown) hb3
    have z3 : w.heap.size ≤ w3.heap.size := hB3.size
    go_wp2_with fail
    refine (HP.out _).mono ?_
    rintro e w4 ⟨rfl, hb4⟩
    have hB4 : Below w.heap.size w w4 := below_trans (by go_grown) hb4
    have z4 : w.heap.size ≤ w4.heap.size := hB4.size
    go_wp2_with fail
    refine (awake09_any _).mono ?_
    rintro e w5 ⟨rfl, hb5⟩
    have hB5 : Below w.heap.size w w5 := below_trans (by go_grown) hb5
    have z5 : w.heap.size ≤ w5.heap.size := hB5.size
    go_wp2
    go_returns
    exact ⟨rfl, hB5⟩
end Go.Proofs.Ytaolpmedlconoaa
