/- What the reference of layer 9 returns: State, Chance, Priority, Count. No condition. -/
import Derived.Test.YtaolpmedlconoaaW09h
set_option linter.unusedSimpArgs false
set_option linter.unusedVariables false
set_option linter.unusedSectionVars false
namespace Go.Proofs.Ytaolpmedlconoaa
open Go.RowKit

/-- What State returns: the state, the error. -/
def S09.stateS (z o l : Int) : Int := if l = 0 ∨ l = 1 then S09.idx z o l else 0
def S09.stateE (z o l : Int) : Int := if l = 0 ∨ l = 1 then (if S09.is z o l then 0 else 7) else 1

theorem refCount09_any (w : World) : Calls Try.prog 21 #[] w fun e w' => e = .returned (.int .i64 215) ∧ Below w.heap.size w w' := by
  go_enter Try.func21, Try.ntmps21
  go_wp2
  go_returns
  exact ⟨rfl, by go_grown⟩

set_option maxHeartbeats 400000 in
theorem refChance09_any (s : Int) (w : World) :
    Calls Try.prog 17 #[.int .i64 s] w fun e w' => e = .returned (.tuple #[.int .i64 (if S09.found s then S09.chance (S09.hz s) (S09.ho s) else 0), .int .i64 (S09.err s)]) ∧ Below w.heap.size w w' := by
  have hL := Lib.hid fun W => refCounts09_any s W
  obtain ⟨b1, b2, b3, b4, b5, b6⟩ := S09.h_bounds s
  cases hf : S09.found s with
  | false =>
    have e4 : S09.err s = 2 := by simp [S09.err, hf]
    rw [e4] at hL ⊢
    clear e4 hf
    generalize S09.hz s = z at *
    generalize S09.ho s = o at *
    generalize S09.hl s = l at *
    go_enter Try.func17, Try.ntmps17
    go_wp2_with fail
    refine (hL.out _).mono ?_
    rintro e w1 ⟨rfl, hb1⟩
    have hB1 : Below w.heap.size w w1 := below_trans (by go_grown) hb1
    have z1 : w.heap.size ≤ w1.heap.size := hB1.size
    go_wp2
    go_returns
    exact ⟨rfl, by go_grown⟩
  | true =>
    have e4 : S09.err s = 0 := by simp [S09.err, hf]
    rw [e4] at hL ⊢
    clear e4 hf
    generalize S09.hz s = z at *
    generalize S09.ho s = o at *
    generalize S09.hl s = l at *
    go_enter Try.func17, Try.ntmps17
    go_wp2_with fail
    refine (hL.out _).mono ?_
    rintro e w1 ⟨rfl, hb1⟩
    have hB1 : Below w.heap.size w w1 := below_trans (by go_grown) hb1
    have z1 : w.heap.size ≤ w1.heap.size := hB1.size
    go_wp2
    go_returns
    exact ⟨rfl, by go_grown⟩

set_option maxHeartbeats 400000 in
theorem refPriority09_any (s : Int) (w : World) :
    Calls Try.prog 19 #[.int .i64 s] w fun e w' => e = .returned (.int .i64 (if S09.found s then S09.hz s + S09.ho s else -1)) ∧ Below w.heap.size w w' := by
  have hL := Lib.hid fun W => refCounts09_any s W
  obtain ⟨b1, b2, b3, b4, b5, b6⟩ := S09.h_bounds s
  cases hf : S09.found s with
  | false =>
    have e4 : S09.err s = 2 := by simp [S09.err, hf]
    rw [e4] at hL
    clear e4 hf
    generalize S09.hz s = z at *
    generalize S09.ho s = o at *
    generalize S09.hl s = l at *
    go_enter Try.func19, Try.ntmps19
    go_wp2_with fail
    refine (hL.out _).mono ?_
    rintro e w1 ⟨rfl, hb1⟩
    have hB1 : Below w.heap.size w w1 := below_trans (by go_grown) hb1
    have z1 : w.heap.size ≤ w1.heap.size := hB1.size
    go_wp2
    go_returns
    exact ⟨rfl, by go_grown⟩
  | true =>
    have e4 : S09.err s = 0 := by simp [S09.err, hf]
    rw [e4] at hL
    clear e4 hf
    generalize S09.hz s = z at *
    generalize S09.ho s = o at *
    generalize S09.hl s = l at *
    go_enter Try.func19, Try.ntmps19
    go_wp2_with fail
    refine (hL.out _).mono ?_
    rintro e w1 ⟨rfl, hb1⟩
    have hB1 : Below w.heap.size w w1 := below_trans (by go_grown) hb1
    have z1 : w.heap.size ≤ w1.heap.size := hB1.size
    go_wp2
    go_returns
    exact ⟨rfl, by go_grown⟩

/-! State. -/
set_option maxHeartbeats 2000000 in
theorem refStateAt09 (t' o' l' : Nat) (k1 : t' ≤ 30) (k2 : o' ≤ t') (k3 : l' < 2) (k4 : S09.ok t' o' l' = true) (w : World) :
    Calls Try.prog 23 #[.int .i64 ((t' : Int) - o'), .int .i64 o', .int .i64 l'] w fun e w' => e = .returned (.tuple #[.int .i64 (S09.cnt t' o' l'), .int .i64 0]) ∧ Below w.heap.size w w' := by
  have HI0 := Lib.hid fun W => refIs09_any ((t' : Int) - o') o' l' W
  have hok0 : S09.is ((t' : Int) - o') o' l' = S09.ok t' o' l' := rfl
  rw [hok0, k4] at HI0
  clear hok0
  have hsum : (t' : Int) - o' + o' = t' := by omega
  have n0 : decide ((l' : Int) < 0) = false := by simp
  have n1 : decide ((1 : Int) < (l' : Int)) = false := by simp; omega
  have n2 : ¬ (l' : Int) < 0 := by omega
  have n3 : ¬ (1 : Int) < (l' : Int) := by omega
  go_enter Try.func23, Try.ntmps23
  go_wp2_with fail
  refine (HI0.out _).mono ?_
  rintro e w1 ⟨rfl, hb1⟩
  have hB1 : Below w.heap.size w w1 := below_trans (by go_grown) hb1
  have z1 : w.heap.size ≤ w1.heap.size := hB1.size
  go_wp2
  go_loopw [8, 9] (fun k t wr => ∃ T : Nat, T ≤ 31 ∧ t = .int .i64 T ∧ k = .int .i64 (S09.cT T) ∧ T ≤ t' ∧ Below w.heap.size w wr) (fun _ t _ => 31 - (intOf t).toNat)
  case atStart => exact ⟨0, by omega, rfl, rfl, by omega, hB1⟩
  case round =>
    obtain ⟨wo, rfl⟩ : ∃ wo : World, wo = wr := ⟨_, rfl⟩
    obtain ⟨T, hT2, rfl, rfl, hs, hB⟩ := hrel
    have hcT := S09.cT_le hT2
    have hlt : T ≤ 30 := by omega
    have d1 : decide ((T : Int) ≤ 30) = true := by simp; omega
    go_wp2
    go_loopw [8, 10] (fun k c wr => ∃ O : Nat, O ≤ T + 1 ∧ c = .int .i64 O ∧ k = .int .i64 (S09.cO T (S09.cT T) O) ∧ (T < t' ∨ O ≤ o') ∧ Below w.heap.size w wr) (fun _ c _ => 32 - (intOf c).toNat)
    case atStart => exact ⟨0, by omega, rfl, rfl, by omega, hB⟩
    case round =>
      obtain ⟨wm, rfl⟩ : ∃ wm : World, wm = wr := ⟨_, rfl⟩
      obtain ⟨O, hO, rfl, rfl, hs2, hB2⟩ := hrel
      have hcO := S09.cO_le T (S09.cT T) O
      by_cases hO2 : O ≤ T
      · have d2 : decide ((O : Int) ≤ (T : Int)) = true := by simp; omega
        have Hstep := Lib.hid (show S09.cO T (S09.cT T) (O + 1) = S09.cL T O (S09.cO T (S09.cT T) O) 2 from rfl)
        obtain ⟨base, hbase⟩ : ∃ b, b = S09.cO T (S09.cT T) O := ⟨_, rfl⟩
        have Hbase := Lib.hid hbase
        rw [← hbase] at hcO Hstep ⊢
        clear hbase
        go_wp2
        go_loopw [8, 11] (fun k c wr => ∃ L : Nat, L ≤ 2 ∧ c = .int .i64 L ∧ k = .int .i64 (S09.cL T O base L) ∧ (T < t' ∨ O < o' ∨ L ≤ l') ∧ Below w.heap.size w wr) (fun _ c _ => 2 - (intOf c).toNat)
        case atStart => exact ⟨0, by omega, rfl, rfl, by omega, hB2⟩
        case round =>
          obtain ⟨L, hL, rfl, rfl, hs3, hB3⟩ := hrel
          have hcL := S09.cL_le T O base L
          by_cases hL2 : L < 2
          · have Hcnt := Lib.hid (show S09.cL T O base L = S09.cnt T O L by rw [Hbase.out]; rfl)
            have hsucc : S09.cL T O base (L + 1) = S09.cL T O base L + (if S09.ok T O L then 1 else 0) := rfl
            by_cases hhit : T = t' ∧ O = o' ∧ L = l'
            · obtain ⟨rfl, rfl, rfl⟩ := hhit
              clear hsucc
              generalize S09.cL T O base L = c0 at *
              go_wp2
              go_returns
              exact ⟨by rw [Hcnt.out]; rfl, hB3⟩
            · have HI := Lib.hid fun W => refIs09_any ((T : Int) - O) O L W
              have hok : S09.is ((T : Int) - O) O L = S09.ok T O L := rfl
              rw [hok] at HI
              have hs4 : T < t' ∨ O < o' ∨ L + 1 ≤ l' := by omega
              have hways : ¬ T = t' ∨ (T = t' ∧ ¬ O = o') ∨ (T = t' ∧ O = o' ∧ ¬ L = l') := by omega
              cases hk : S09.ok T O L with
              | false =>
                rw [hk] at HI hsucc
                have Hsucc := Lib.hid (show S09.cL T O base (L + 1) = S09.cL T O base L from hsucc)
                clear hsucc hok hk
                generalize S09.cL T O base L = c0 at *
                rcases hways with hw | ⟨rfl, hw⟩ | ⟨rfl, rfl, hw⟩
                all_goals
                  go_wp2_with fail
                  refine (HI.out _).mono ?_
                  rintro e w3 ⟨rfl, hb3⟩
                  have hB4 := below_trans hB3 hb3
                  go_wp2
                  go_roundw
                  case rel => exact ⟨L + 1, by omega, by go_num, by rw [Hsucc.out], hs4, hB4⟩
                  case measure => simp [intOf]; omega
              | true =>
                rw [hk] at HI hsucc
                have Hsucc := Lib.hid (show S09.cL T O base (L + 1) = S09.cL T O base L + 1 from hsucc)
                clear hsucc hok hk
                generalize S09.cL T O base L = c0 at *
                rcases hways with hw | ⟨rfl, hw⟩ | ⟨rfl, rfl, hw⟩
                all_goals
                  go_wp2_with fail
                  refine (HI.out _).mono ?_
                  rintro e w3 ⟨rfl, hb3⟩
                  have hB4 := below_trans hB3 hb3
                  go_wp2
                  go_roundw
                  case rel => exact ⟨L + 1, by omega, by go_num, by rw [Hsucc.out]; go_num, hs4, hB4⟩
                  case measure => simp [intOf]; omega
          · obtain rfl : L = 2 := by omega
            go_wp2
            go_roundw
            case rel => exact ⟨O + 1, by omega, by go_num, by rw [Hstep.out], by omega, hB3⟩
            case measure => simp [intOf]; omega
      · obtain rfl : O = T + 1 := by omega
        go_wp2
        go_roundw
        case rel => exact ⟨T + 1, by omega, by go_num, rfl, by omega, hB2⟩
        case measure => simp [intOf]; omega

theorem refState09_any (z o l : Int) (w : World) :
    Calls Try.prog 23 #[.int .i64 z, .int .i64 o, .int .i64 l] w fun e w' => e = .returned (.tuple #[.int .i64 (S09.stateS z o l), .int .i64 (S09.stateE z o l)]) ∧ Below w.heap.size w w' := by
  by_cases hl : l = 0 ∨ l = 1
  · cases hi : S09.is z o l with
    | true =>
      have e1 : S09.stateS z o l = S09.idx z o l := by simp [S09.stateS, hl]
      have e2 : S09.stateE z o l = 0 := by simp [S09.stateE, hl, hi]
      rw [e1, e2]
      obtain ⟨t', o', l', k1, k2, k3, rfl, rfl, rfl, k4, k5⟩ := S09.is_place hi
      rw [k5]
      exact refStateAt09 t' o' l' k1 k2 k3 k4 w
    | false =>
      have e1 : S09.stateS z o l = 0 := by simp [S09.stateS, S09.idx, hi]
      have e2 : S09.stateE z o l = 7 := by simp [S09.stateE, hl, hi]
      rw [e1, e2]
      have HI := Lib.hid fun W => refIs09_any z o l W
      rw [hi] at HI
      have g0 : ¬ l < 0 := by omega
      have g1 : ¬ 1 < l := by omega
      clear e1 e2 hi hl
      go_enter Try.func23, Try.ntmps23
      go_wp2_with fail
      refine (HI.out _).mono ?_
      rintro e w1 ⟨rfl, hb1⟩
      have hB1 : Below w.heap.size w w1 := below_trans (by go_grown) hb1
      have z1 : w.heap.size ≤ w1.heap.size := hB1.size
      go_wp2
      go_returns
      exact ⟨rfl, by go_grown⟩
  · have e1 : S09.stateS z o l = 0 := by simp [S09.stateS, hl]
    have e2 : S09.stateE z o l = 1 := by simp [S09.stateE, hl]
    rw [e1, e2]
    have g : l < 0 ∨ (¬ l < 0 ∧ 1 < l) := by omega
    clear e1 e2 hl
    rcases g with g | ⟨g, g'⟩
    all_goals
      go_enter Try.func23, Try.ntmps23
      go_wp2
      go_returns
      exact ⟨rfl, by go_grown⟩
end Go.Proofs.Ytaolpmedlconoaa
