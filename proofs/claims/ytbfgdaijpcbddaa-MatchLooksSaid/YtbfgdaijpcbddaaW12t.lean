/- Longest (layer 12). No condition. -/
import Derived.Test.YtbfgdaijpcbddaaW12i
set_option linter.unusedSimpArgs false
set_option linter.unusedVariables false
set_option linter.unusedSectionVars false
namespace Go.Proofs.Ytbfgdaijpcbddaa
open Go.RowKit

theorem S12.longTo_ge (b : List Int) (least : Int) : ∀ p, (S12.longTo b least p).1 ≤ p
  | 0 => Nat.le_refl _
  | p + 1 => by
    unfold S12.longTo
    split
    · exact Nat.zero_le _
    · split
      · simp only; omega
      · exact Nat.le_trans (S12.longTo_ge b least p) (by omega)
theorem S12.longTo_le (b : List Int) (least : Int) : ∀ p, (S12.longTo b least p).2 ≤ 255
  | 0 => Nat.zero_le _
  | p + 1 => by
    unfold S12.longTo
    split
    · exact Nat.zero_le _
    · split
      · have := S12.rep_le b p; simp only; omega
      · exact S12.longTo_le b least p

set_option maxRecDepth 100000 in
set_option maxHeartbeats 2000000 in
theorem longest12_any (a : Option Addr) (cap : Nat) (xs : List Int) (least : Int) (w : World) (hl63 : xs.length ≤ 4611686018427387904) (hcap : xs.length ≤ cap) (hrd : Rd w a (Bts xs)) :
    Calls Try.prog 24 #[.slice a xs.length cap, .int .i64 least] w fun e w' => e = .returned (.tuple #[.int .i64 ((S12.longest xs least).1 : Int), .int .i64 ((S12.longest xs least).2 : Int)]) ∧ Below w.heap.size w w' := by
  by_cases h1 : least < 1
  · have e1 : S12.longest xs least = (0, 0) := by unfold S12.longest; rw [if_pos (.inl h1)]
    have d1 : decide (least < 1) = true := decide_eq_true h1
    rw [e1]
    go_enter Try.func24, Try.ntmps24
    go_wp2_with fail
    go_returns
    exact ⟨rfl, Below.refl _ _⟩
  have d1 : decide (least < 1) = false := decide_eq_false h1
  by_cases h2 : 65536 < xs.length
  · have e1 : S12.longest xs least = (0, 0) := by unfold S12.longest; rw [if_pos (.inr h2)]
    have d2 : decide (65536 < (xs.length : Int)) = true := decide_eq_true (by omega)
    rw [e1]
    clear h2
    go_enter Try.func24, Try.ntmps24
    go_wp2_with fail
    go_returns
    exact ⟨rfl, Below.refl _ _⟩
  have d2 : decide (65536 < (xs.length : Int)) = false := decide_eq_false (by omega)
  have e1 : S12.longest xs least = S12.longTo xs least xs.length := by unfold S12.longest; rw [if_neg (by omega)]
  rw [e1]
  have HR := Lib.hid fun W (q : Nat) (hq : q ≤ xs.length) (hne : 0 < xs.length) (hrd : Rd W a (Bts xs)) => (show Calls Try.prog 53 #[.slice a xs.length cap, .int .i64 (q : Int)] W fun e w' => e = .returned (.int .i64 (S12.rep xs q : Int)) ∧ Below W.heap.size W w' by
    obtain ⟨g, o, rfl, _⟩ := Bts_at hrd (i := 0) hne
    exact repetition_any g o cap xs q hq (by omega) hcap hne W hrd)
  obtain ⟨R, hR⟩ : ∃ R, S12.longTo xs least xs.length = R := ⟨_, rfl⟩
  rw [hR]
  have HRR := Lib.hid hR
  have Hrd := Lib.hid hrd
  clear hR e1 hrd
  go_enter Try.func24, Try.ntmps24
  go_wp2_with fail
  go_loopw [6, 7, 8] (fun at_ most p wr => ∃ k : Nat, k ≤ max xs.length 1 ∧ 1 ≤ k ∧ p = .int .i64 (k : Int) ∧ at_ = .int .i64 ((S12.longTo xs least k).1 : Int) ∧ most = .int .i64 ((S12.longTo xs least k).2 : Int) ∧ Below w.heap.size w wr)
    (fun _ _ p _ => xs.length - (intOf p).toNat)
  case atStart => exact ⟨1, by omega, by omega, rfl, rfl, rfl, Below.refl _ _⟩
  case round =>
    obtain ⟨k, hk, hk1, rfl, rfl, rfl, hB⟩ := hrel
    by_cases hlt : k < xs.length
    · have HT := Lib.hid (show S12.longTo xs least (k + 1) = if (S12.longTo xs least k).2 ≤ S12.rep xs k ∧ least ≤ S12.rep xs k then (k, S12.rep xs k) else S12.longTo xs least k by rw [S12.longTo]; rw [if_neg (by omega)])
      have hl := S12.longTo_le xs least k
      have hg := S12.longTo_ge xs least k
      obtain ⟨⟨q1, q2⟩, hq⟩ : ∃ q, S12.longTo xs least k = q := ⟨_, rfl⟩
      have HC := Lib.hid (HR.out wr k (by omega) (by omega) (Hrd.out.step hB))
      obtain ⟨rp, hrp⟩ : ∃ rp, S12.rep xs k = rp := ⟨_, rfl⟩
      rw [hrp] at HC HT
      rw [hq] at HT hl hg ⊢
      simp only at HT hl hg ⊢
      clear hq hrp
      have dk : decide ((k : Int) < (xs.length : Int)) = true := decide_eq_true (by omega)
      go_wp2_with fail
      refine HC.out.mono ?_
      rintro e w1 ⟨rfl, hb1⟩
      have hB1 := below_trans hB hb1
      have hk9 : k < 70000 := by omega
      have hT := HT.out
      by_cases hc : q2 ≤ rp ∧ least ≤ rp
      · rw [if_pos hc] at hT
        have HT2 := Lib.hid hT
        have dm : decide (max (q2 : Int) least ≤ (rp : Int)) = true := decide_eq_true (by omega)
        clear hT HT hc dk
        go_wp2_with fail
        go_roundw
        case rel => exact ⟨k + 1, by omega, by omega, by go_num, by rw [HT2.out], by rw [HT2.out], hB1⟩
        case measure => simp [intOf]; omega
      · rw [if_neg hc] at hT
        have HT2 := Lib.hid hT
        have dm : decide (max (q2 : Int) least ≤ (rp : Int)) = false := decide_eq_false (by omega)
        clear hT HT hc dk
        go_wp2_with fail
        go_roundw
        case rel => exact ⟨k + 1, by omega, by omega, by go_num, by rw [HT2.out], by rw [HT2.out], hB1⟩
        case measure => simp [intOf]; omega
    · have e : S12.longTo xs least k = R := by
        rw [← HRR.out]
        rcases Nat.eq_zero_or_pos xs.length with h0 | h0
        · rw [h0, show k = 1 by omega]; rfl
        · rw [show k = xs.length by omega]
      rw [e]
      have dk : decide ((k : Int) < (xs.length : Int)) = false := decide_eq_false (by omega)
      clear e hk
      go_wp2_with fail
      go_returns
      exact ⟨rfl, hB⟩
end Go.Proofs.Ytbfgdaijpcbddaa
