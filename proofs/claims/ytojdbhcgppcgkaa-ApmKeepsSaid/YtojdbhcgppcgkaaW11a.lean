/- What Check and its reference (layer 11), and the checks of a context and a probability return. No condition. -/
import Derived.Test.YtojdbhcgppcgkaaIdx
import Derived.Test.YtojdbhcgppcgkaaW06b
import Derived.Test.YtojdbhcgppcgkaaSpec11
set_option linter.unusedSimpArgs false
set_option linter.unusedVariables false
set_option linter.unusedSectionVars false
namespace Go.Proofs.Ytojdbhcgppcgkaa
open Go.RowKit

theorem enterBad (args : Array Value) (w : World) : (callFunc 29 args).run Try.prog w = .ok (.enter 29 args) w := by kernel_rfl

theorem bad11_any (x : Int) (w : World) : Calls Try.prog 29 #[.int .i64 x] w fun e w' => e = .returned (.bool (S11.bad x)) ∧ Below w.heap.size w w' := by
  by_cases h : x < 0
  · have e : S11.bad x = true := by simp [S11.bad, h]
    rw [e]
    go_enter Try.func29, Try.ntmps29
    go_wp2
    go_returns
    exact ⟨rfl, by go_grown⟩
  · have e : S11.bad x = decide (65535 < x) := by simp [S11.bad]; omega
    rw [e]
    go_enter Try.func29, Try.ntmps29
    go_wp2
    go_returns
    exact ⟨rfl, by go_grown⟩

theorem S11.check_long {xs : List Int} (h : xs.length % 33 ≠ 0 ∨ xs.length < 33 ∨ 2162688 < xs.length) : S11.check xs = 6 := by unfold S11.check; rw [if_pos h]
theorem S11.check_fit {xs : List Int} (h : ¬ (xs.length % 33 ≠ 0 ∨ xs.length < 33 ∨ 2162688 < xs.length)) : S11.check xs = if xs.any S11.bad then 2 else 0 := by unfold S11.check; rw [if_neg h]

set_option maxHeartbeats 1000000 in
theorem check11_any (xs : List Int) (a : Option Addr) (cap : Nat) (w : World) (hlen : xs.length ≤ 9223372036854775807) (hrd : Rd w a (Ints xs)) :
    Calls Try.prog 15 #[.agg #[.slice a xs.length cap]] w fun e w' => e = .returned (.int .i64 (S11.check xs)) ∧ Below w.heap.size w w' := by
  by_cases hl : xs.length % 33 ≠ 0 ∨ xs.length < 33 ∨ 2162688 < xs.length
  · rw [S11.check_long hl]
    have hw : (((xs.length : Int) % 33 != 0) = true) ∨ (((xs.length : Int) % 33 != 0) = false ∧ (xs.length : Int) < 33) ∨ (((xs.length : Int) % 33 != 0) = false ∧ ¬ (xs.length : Int) < 33 ∧ (2162688 : Int) < xs.length) := by
      by_cases h1 : xs.length % 33 = 0
      · have h2 : (((xs.length : Int) % 33 != 0) = false) := by simp; omega
        right
        by_cases h3 : xs.length < 33
        · left; exact ⟨h2, by omega⟩
        · right; exact ⟨h2, by omega, by omega⟩
      · left; simp; omega
    clear hl
    generalize xs.length = n at *
    rcases hw with hw | ⟨hw, hw2⟩ | ⟨hw, hw2, hw3⟩
    all_goals
      go_enter Try.func15, Try.ntmps15
      go_wp2
      go_returns
      exact ⟨rfl, by go_grown⟩
  · rw [S11.check_fit hl]
    have h1 : (((xs.length : Int) % 33 != 0) = false) := by simp; omega
    have h2 : ¬ (xs.length : Int) < 33 := by omega
    have h3 : ¬ (2162688 : Int) < xs.length := by omega
    have HC := Lib.hid fun W (hb : Below w.heap.size w W) => containsFuncInts_any 29 enterBad S11.bad bad11_any xs a cap W hlen (hrd.step hb)
    clear hl hrd
    generalize xs.any S11.bad = b at *
    generalize xs.length = n at *
    cases b
    all_goals
      go_enter Try.func15, Try.ntmps15
      go_wp2_with fail
      refine (HC.out _ (by go_grown)).mono ?_
      rintro e w1 ⟨rfl, hb1⟩
      have hB1 : Below w.heap.size w w1 := below_trans (by go_grown) hb1
      have z1 : w.heap.size ≤ w1.heap.size := hB1.size
      go_wp2
      go_returns
      exact ⟨rfl, hB1⟩

set_option maxHeartbeats 1000000 in
theorem usable11_any (xs : List Int) (a : Option Addr) (cap : Nat) (c p : Int) (w : World) (hlen : xs.length ≤ 9223372036854775807) (hrd : Rd w a (Ints xs)) :
    Calls Try.prog 30 #[.agg #[.slice a xs.length cap], .int .i64 c, .int .i64 p] w fun e w' => e = .returned (.int .i64 (S11.usable xs c p)) ∧ Below w.heap.size w w' := by
  have HC := Lib.hid fun W (hb : Below w.heap.size w W) => check11_any xs a cap W hlen (hrd.step hb)
  unfold S11.usable
  have hq : ((xs.length / 33 : Nat) : Int) = (xs.length : Int) / 33 := by omega
  rw [hq]
  clear hrd hq
  generalize S11.check xs = y at *
  generalize xs.length = n at *
  by_cases hy : y = 0
  · subst hy
    rw [if_neg (by simp)]
    by_cases hc : c < 0 ∨ (n : Int) / 33 ≤ c
    · rw [if_pos hc]
      have hw : c < 0 ∨ (¬ c < 0 ∧ (n : Int) / 33 ≤ c) := by omega
      clear hc
      rcases hw with hw | ⟨hw, hw2⟩
      all_goals
        go_enter Try.func30, Try.ntmps30
        go_wp2_with fail
        refine (HC.out _ (by go_grown)).mono ?_
        rintro e w1 ⟨rfl, hb1⟩
        have hB1 : Below w.heap.size w w1 := below_trans (by go_grown) hb1
        have z1 : w.heap.size ≤ w1.heap.size := hB1.size
        have k1 : w1.cell? ⟨w.heap.size, 0, none⟩ = some (.slice a n cap) := (hb1.cell (by simp <;> omega)).trans (by go_simp)
        have hs1 : w.heap.size < w1.heap.size := by have := hb1.size; simp at this; omega
        go_wp2
        go_returns
        exact ⟨rfl, hB1⟩
    · rw [if_neg hc]
      have h1 : ¬ c < 0 := by omega
      have h2 : ¬ (n : Int) / 33 ≤ c := by omega
      clear hc
      have hw : (p < 1) ∨ (¬ p < 1 ∧ 4095 < p) ∨ (¬ p < 1 ∧ ¬ 4095 < p) := by omega
      rcases hw with hw | ⟨hw, hw2⟩ | ⟨hw, hw2⟩
      · rw [if_pos (by omega)]
        go_enter Try.func30, Try.ntmps30
        go_wp2_with fail
        refine (HC.out _ (by go_grown)).mono ?_
        rintro e w1 ⟨rfl, hb1⟩
        have hB1 : Below w.heap.size w w1 := below_trans (by go_grown) hb1
        have z1 : w.heap.size ≤ w1.heap.size := hB1.size
        have k2 : w1.cell? ⟨w.heap.size, 0, none⟩ = some (.slice a n cap) := (hb1.cell (by simp <;> omega)).trans (by go_simp)
        have hs1 : w.heap.size < w1.heap.size := by have := hb1.size; simp at this; omega
        go_wp2
        go_returns
        exact ⟨rfl, hB1⟩
      · rw [if_pos (by omega)]
        go_enter Try.func30, Try.ntmps30
        go_wp2_with fail
        refine (HC.out _ (by go_grown)).mono ?_
        rintro e w1 ⟨rfl, hb1⟩
        have hB1 : Below w.heap.size w w1 := below_trans (by go_grown) hb1
        have z1 : w.heap.size ≤ w1.heap.size := hB1.size
        have k3 : w1.cell? ⟨w.heap.size, 0, none⟩ = some (.slice a n cap) := (hb1.cell (by simp <;> omega)).trans (by go_simp)
        have hs1 : w.heap.size < w1.heap.size := by have := hb1.size; simp at this; omega
        go_wp2
        go_returns
        exact ⟨rfl, hB1⟩
      · rw [if_neg (by omega)]
        go_enter Try.func30, Try.ntmps30
        go_wp2_with fail
        refine (HC.out _ (by go_grown)).mono ?_
        rintro e w1 ⟨rfl, hb1⟩
        have hB1 : Below w.heap.size w w1 := below_trans (by go_grown) hb1
        have z1 : w.heap.size ≤ w1.heap.size := hB1.size
        have k4 : w1.cell? ⟨w.heap.size, 0, none⟩ = some (.slice a n cap) := (hb1.cell (by simp <;> omega)).trans (by go_simp)
        have hs1 : w.heap.size < w1.heap.size := by have := hb1.size; simp at this; omega
        go_wp2
        go_returns
        exact ⟨rfl, hB1⟩
  · rw [if_pos hy]
    have hy2 : ((y : Int) != 0) = true := by simpa using hy
    clear hy
    go_enter Try.func30, Try.ntmps30
    go_wp2_with fail
    refine (HC.out _ (by go_grown)).mono ?_
    rintro e w1 ⟨rfl, hb1⟩
    have hB1 : Below w.heap.size w w1 := below_trans (by go_grown) hb1
    have z1 : w.heap.size ≤ w1.heap.size := hB1.size
    go_wp2
    go_returns
    exact ⟨rfl, hB1⟩
end Go.Proofs.Ytojdbhcgppcgkaa
