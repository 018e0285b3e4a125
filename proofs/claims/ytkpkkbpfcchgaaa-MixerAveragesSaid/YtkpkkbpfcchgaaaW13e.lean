/- The walk of check (layer 13). No condition. -/
import Derived.Test.YtkpkkbpfcchgaaaW13d
set_option linter.unusedSimpArgs false
set_option linter.unusedVariables false
set_option linter.unusedSectionVars false
namespace Go.Proofs.Ytkpkkbpfcchgaaa
open Go.RowKit

theorem mixOpen {n : Int} {L : List (List Int)} {V : Value} {w : World} (h : MixIs n L V w) : ∃ a cap, V = .agg #[.int .i64 n, .slice a L.length cap] ∧ L.length ≤ cap ∧ cap ≤ 9223372036854775807 ∧ MixIs n L (.agg #[.int .i64 n, .slice a L.length cap]) w := by
  obtain ⟨R, a, cap, rfl, rfl, h1, h2, h3, h4⟩ := h
  refine ⟨a, cap, by simp, by simpa using h1, h2, R, a, cap, rfl, by simp, h1, h2, h3, h4⟩

set_option maxHeartbeats 1000000 in
theorem usable13_any (n : Int) (L : List (List Int)) (V : Value) (c : Int) (xs : List Int) (a : Option Addr) (cap : Nat) (w : World) (hV : MixIs n L V w) (hlen : xs.length ≤ 9223372036854775807) (hrd : Rd w a (Ints xs)) :
    Calls Try.prog 29 #[V, .int .i64 c, .slice a xs.length cap] w fun e w' => e = .returned (.int .i64 (S13.usable 16 n L c xs)) ∧ Below w.heap.size w w' := by
  obtain ⟨ma, mc, rfl, m1, m2, hV⟩ := mixOpen hV
  have HC := Lib.hid fun W (hb : Below w.heap.size w W) => check13_any n L _ W (hV.step hb)
  have HB := Lib.hid fun W => between13_any c 0 ((L.length : Int) - 1) W
  have HS := Lib.hid fun W (hb : Below w.heap.size w W) => containsFuncInts_any _ enterStrong S13.strong strong13_any xs a cap W hlen (hrd.step hb)
  have hus : S13.usable 16 n L c xs = if S13.check 16 n L ≠ 0 then S13.check 16 n L else if c < 0 ∨ (L.length : Int) ≤ c then 7 else if (xs.length : Int) ≠ n then 6 else if xs.any S13.strong then 2 else 0 := rfl
  rw [hus]
  clear hus hV hrd
  generalize S13.check 16 n L = y at *
  generalize xs.any S13.strong = s at *
  generalize xs.length = k at *
  generalize L.length = l at *
  by_cases hy : y = 0
  · subst hy
    rw [if_neg (by simp)]
    by_cases hc : c < 0 ∨ (l : Int) ≤ c
    · rw [if_pos hc]
      have hb : (decide (0 ≤ c) && decide (c ≤ (l : Int) - 1)) = false := by
        rw [Bool.and_eq_false_iff, decide_eq_false_iff_not, decide_eq_false_iff_not]; omega
      rw [hb] at HB
      clear hb hc
      go_enter Try.func29, Try.ntmps29
      go_wp2_with fail
      refine (HC.out _ (by go_grown)).mono ?_
      rintro e w1 ⟨rfl, hb1⟩
      have hB1 : Below w.heap.size w w1 := below_trans (by go_grown) hb1
      have z1 : w.heap.size ≤ w1.heap.size := hB1.size
      have hs1 : w.heap.size < w1.heap.size := by have := hb1.size; simp at this; omega
      have k1 : w1.cell? ⟨w.heap.size, 0, none⟩ = some (.int .i64 n) := (hb1.cell (by simp <;> omega)).trans (by go_simp)
      have k2 : w1.cell? ⟨w.heap.size, 1, none⟩ = some (.slice ma l mc) := (hb1.cell (by simp <;> omega)).trans (by go_simp)
      go_wp2_with fail
      refine (HB.out _).mono ?_
      rintro e w2 ⟨rfl, hb2⟩
      have hB2 : Below w.heap.size w w2 := below_trans (by go_grown) hb2
      have z2 : w.heap.size ≤ w2.heap.size := hB2.size
      go_wp2
      go_returns
      exact ⟨rfl, hB2⟩
    · rw [if_neg hc]
      have hb : (decide (0 ≤ c) && decide (c ≤ (l : Int) - 1)) = true := by
        rw [Bool.and_eq_true, decide_eq_true_eq, decide_eq_true_eq]; omega
      rw [hb] at HB
      clear hb hc
      by_cases hk : (k : Int) = n
      · rw [if_neg (by simpa using hk)]
        have hk2 : ((k : Int) != n) = false := by simpa using hk
        clear hk
        cases s
        all_goals
          go_enter Try.func29, Try.ntmps29
          go_wp2_with fail
          refine (HC.out _ (by go_grown)).mono ?_
          rintro e w1 ⟨rfl, hb1⟩
          have hB1 : Below w.heap.size w w1 := below_trans (by go_grown) hb1
          have z1 : w.heap.size ≤ w1.heap.size := hB1.size
          have hs1 : w.heap.size < w1.heap.size := by have := hb1.size; simp at this; omega
          have k3 : w1.cell? ⟨w.heap.size, 0, none⟩ = some (.int .i64 n) := (hb1.cell (by simp <;> omega)).trans (by go_simp)
          have k4 : w1.cell? ⟨w.heap.size, 1, none⟩ = some (.slice ma l mc) := (hb1.cell (by simp <;> omega)).trans (by go_simp)
          go_wp2_with fail
          refine (HB.out _).mono ?_
          rintro e w2 ⟨rfl, hb2⟩
          have hB2 : Below w.heap.size w w2 := below_trans (by go_grown) hb2
          have z2 : w.heap.size ≤ w2.heap.size := hB2.size
          have hs2 : w.heap.size < w2.heap.size := by have := hb2.size; omega
          have k5 : w2.cell? ⟨w.heap.size, 0, none⟩ = some (.int .i64 n) := (hb2.cell (by simp <;> omega)).trans (by go_simp)
          have k6 : w2.cell? ⟨w.heap.size, 1, none⟩ = some (.slice ma l mc) := (hb2.cell (by simp <;> omega)).trans (by go_simp)
          go_wp2_with fail
          refine (HS.out _ (by go_grown)).mono ?_
          rintro e w3 ⟨rfl, hb3⟩
          have hB3 : Below w.heap.size w w3 := below_trans (by go_grown) hb3
          have z3 : w.heap.size ≤ w3.heap.size := hB3.size
          go_wp2
          go_returns
          exact ⟨rfl, hB3⟩
      · rw [if_pos hk]
        have hk2 : ((k : Int) != n) = true := by simpa using hk
        clear hk
        go_enter Try.func29, Try.ntmps29
        go_wp2_with fail
        refine (HC.out _ (by go_grown)).mono ?_
        rintro e w1 ⟨rfl, hb1⟩
        have hB1 : Below w.heap.size w w1 := below_trans (by go_grown) hb1
        have z1 : w.heap.size ≤ w1.heap.size := hB1.size
        have hs1 : w.heap.size < w1.heap.size := by have := hb1.size; simp at this; omega
        have k7 : w1.cell? ⟨w.heap.size, 0, none⟩ = some (.int .i64 n) := (hb1.cell (by simp <;> omega)).trans (by go_simp)
        have k8 : w1.cell? ⟨w.heap.size, 1, none⟩ = some (.slice ma l mc) := (hb1.cell (by simp <;> omega)).trans (by go_simp)
        go_wp2_with fail
        refine (HB.out _).mono ?_
        rintro e w2 ⟨rfl, hb2⟩
        have hB2 : Below w.heap.size w w2 := below_trans (by go_grown) hb2
        have z2 : w.heap.size ≤ w2.heap.size := hB2.size
        have hs2 : w.heap.size < w2.heap.size := by have := hb2.size; omega
        have k9 : w2.cell? ⟨w.heap.size, 0, none⟩ = some (.int .i64 n) := (hb2.cell (by simp <;> omega)).trans (by go_simp)
        have k10 : w2.cell? ⟨w.heap.size, 1, none⟩ = some (.slice ma l mc) := (hb2.cell (by simp <;> omega)).trans (by go_simp)
        go_wp2
        go_returns
        exact ⟨rfl, hB2⟩
  · rw [if_pos hy]
    have hy2 : ((y : Int) != 0) = true := by simpa using hy
    clear hy
    go_enter Try.func29, Try.ntmps29
    go_wp2_with fail
    refine (HC.out _ (by go_grown)).mono ?_
    rintro e w1 ⟨rfl, hb1⟩
    have hB1 : Below w.heap.size w w1 := below_trans (by go_grown) hb1
    have z1 : w.heap.size ≤ w1.heap.size := hB1.size
    go_wp2
    go_returns
    exact ⟨rfl, hB1⟩
end Go.Proofs.Ytkpkkbpfcchgaaa
