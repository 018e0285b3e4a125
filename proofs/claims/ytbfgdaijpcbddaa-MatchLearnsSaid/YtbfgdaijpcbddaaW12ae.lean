/- The reference's Index, Expected, Few and New (layer 12). No condition. -/
import Derived.Test.YtbfgdaijpcbddaaW12x
set_option linter.unusedSimpArgs false
set_option linter.unusedVariables false
set_option linter.unusedSectionVars false
namespace Go.Proofs.Ytbfgdaijpcbddaa
open Go.RowKit

set_option maxHeartbeats 2000000 in
theorem rexpected12_any (x pt : Nat) (hx : x < 256) (h1 : 1 ≤ pt) (h2 : pt ≤ 255) (w : World) :
    Calls Try.prog 52 #[.int .u8 (x : Int), .int .i64 (pt : Int)] w fun e w' => e = .returned (.tuple #[.int .i64 (S12.optN (S12.exp x (pt : Int))), .bool (S12.exp x (pt : Int)).isSome]) ∧ Below w.heap.size w w' := by
  obtain ⟨E, hE⟩ : ∃ E, S12.exp x (pt : Int) = E := ⟨_, rfl⟩
  have HE := Lib.hid fun (n : Nat) (hn : n ≤ 7) (a : 2 ^ n ≤ pt) (b : pt < 2 ^ (n + 1)) => (hE.symm.trans (S12.exp_at hx hn a b) : E = _)
  rw [hE]
  obtain ⟨EN, hEN⟩ : ∃ EN, S12.optN E = EN := ⟨_, rfl⟩
  rw [hEN]
  have HEN := Lib.hid hEN
  clear hE hEN
  go_enter Try.func52, Try.ntmps52
  go_wp2_with fail
  go_loopw [6] (fun n wr => ∃ k : Nat, k ≤ 7 ∧ n = .int .i64 (k : Int) ∧ 2 ^ k ≤ pt ∧ Below w.heap.size w wr) (fun n _ => 8 - (intOf n).toNat)
  case atStart => exact ⟨0, by omega, rfl, by omega, Below.refl _ _⟩
  case round =>
    obtain ⟨k, hk, rfl, hpk, hB⟩ := hrel
    have hdc := div_cast pt (k + 1)
    by_cases hlt : 2 ^ (k + 1) ≤ pt
    · have hk6 : k + 1 ≤ 7 := by
        have h3 : 2 ^ (k + 1) < 2 ^ 8 := by omega
        have := (Nat.pow_lt_pow_iff_right (by omega : 1 < 2)).1 h3
        omega
      have hd : 0 < pt / 2 ^ (k + 1) := Nat.div_pos hlt (Nat.two_pow_pos _)
      obtain ⟨d, hdd⟩ : ∃ d, pt / 2 ^ (k + 1) = d := ⟨_, rfl⟩
      rw [hdd] at hd hdc
      clear hdd hpk
      go_wp2_with fail
      go_roundw
      case rel => exact ⟨k + 1, hk6, by go_num, hlt, hB⟩
      case measure => simp [intOf]; omega
    · have hEE := HE.out k hk hpk (by omega)
      have hd : pt / 2 ^ (k + 1) = 0 := Nat.div_eq_of_lt (by omega)
      rw [hd] at hdc
      have hdc2 := div_cast (256 + x) (8 - k)
      have hdc3 := div_cast x (7 - k)
      rw [show ((256 + x : Nat) : Int) = 256 + (x : Int) by omega] at hdc2
      obtain ⟨u, hu⟩ : ∃ u, (256 + x) / 2 ^ (8 - k) = u := ⟨_, rfl⟩
      have hand : bits .and .i64 ((x : Int) / 2 ^ (7 - k)) 1 = ((x / 2 ^ (7 - k) % 2 : Nat) : Int) := by rw [div_cast, bits_and_1 _ (Nat.lt_of_le_of_lt (Nat.div_le_self _ _) (by omega))]
      rw [hu] at hdc2 hEE
      obtain ⟨v, hv⟩ : ∃ v, x / 2 ^ (7 - k) % 2 = v := ⟨_, rfl⟩
      rw [hv] at hand hEE
      have hk7 : ¬ 7 < k := by omega
      by_cases hup : u = pt
      · rw [if_pos hup] at hEE
        subst hEE
        have hEN : EN = (v : Int) := HEN.out.symm
        subst hEN
        subst hup
        clear hdc3 hpk hd hu hv hlt
        go_wp2_with fail
        go_returns
        exact ⟨rfl, hB⟩
      · rw [if_neg hup] at hEE
        subst hEE
        have hEN : EN = 2 := HEN.out.symm
        subst hEN
        have hne : ((u : Int) != (pt : Int)) = true := by simp; omega
        clear hdc3 hpk hd hu hv hlt hand
        go_wp2_with fail
        go_returns
        exact ⟨rfl, hB⟩

def S12.few (m : S12.M) : Bool := decide (m.heads.length ≤ 300) && (decide (m.bytes.length ≤ 400) && decide (m.ctrs.length ≤ 40))
set_option maxHeartbeats 1000000 in
theorem few12_any (m : S12.M) (p : Pl) (w : World) (hM : MIs m p w) : Calls Try.prog 16 #[MV m p] w fun e w' => e = .returned (.bool (S12.few m)) ∧ Below w.heap.size w w' := by
  have hf : S12.few m = (decide (m.heads.length ≤ 300) && (decide (m.bytes.length ≤ 400) && decide (m.ctrs.length ≤ 40))) := rfl
  have l1 := hM.lh
  have l2 := hM.lb
  have l3 := hM.lc
  rw [hf]
  unfold MV MVals
  clear hM hf
  by_cases c1 : m.heads.length ≤ 300
  · by_cases c2 : m.bytes.length ≤ 400
    · have d1 : decide ((m.heads.length : Int) ≤ 300) = true := decide_eq_true (by omega)
      have d2 : decide ((m.bytes.length : Int) ≤ 400) = true := decide_eq_true (by omega)
      rw [decide_eq_true c1, decide_eq_true c2]
      go_enter Try.func16, Try.ntmps16
      go_wp2_with fail
      go_returns
      exact ⟨ret_bool (by simp; try omega), by go_grown⟩
    · have d1 : decide ((m.heads.length : Int) ≤ 300) = true := decide_eq_true (by omega)
      have d2 : decide ((m.bytes.length : Int) ≤ 400) = false := decide_eq_false (by omega)
      rw [decide_eq_true c1, decide_eq_false c2]
      go_enter Try.func16, Try.ntmps16
      go_wp2_with fail
      go_returns
      exact ⟨rfl, by go_grown⟩
  · have d1 : decide ((m.heads.length : Int) ≤ 300) = false := decide_eq_false (by omega)
    rw [decide_eq_false c1]
    go_enter Try.func16, Try.ntmps16
    go_wp2_with fail
    go_returns
    exact ⟨rfl, by go_grown⟩
end Go.Proofs.Ytbfgdaijpcbddaa
