/- The laws ApmStarts and ApmRises at every input. No condition. -/
import Derived.Test.YtojdbhcgppcgkaaSpec11b
import Derived.Lib.MinMax
set_option linter.unusedSimpArgs false
set_option linter.unusedVariables false
set_option linter.unusedSectionVars false
namespace Go.Proofs.Ytojdbhcgppcgkaa
open Go.RowKit

def S11.ch (n : Int) : Int := 1 + n % 4095
theorem lawChance11_any (n : Int) (w : World) (h : 0 ≤ n) (h' : n ≤ 65535) : Calls Try.prog 21 #[.int .u16 n] w fun e w' => e = .returned (.int .i64 (S11.ch n)) ∧ Below w.heap.size w w' := by
  go_enter Try.func21, Try.ntmps21
  go_wp2
  go_returns
  exact ⟨rfl, by go_grown⟩
theorem S11.ch_bounds (n : Int) : 1 ≤ S11.ch n ∧ S11.ch n ≤ 4095 := by unfold S11.ch; omega

/-- A new map of one row. -/
theorem newOne11 (w : World) : Calls Try.prog 12 #[.int .i64 1] w fun e w' => ∃ a cap, e = .returned (.tuple #[.agg #[.slice a 33 cap], .int .i64 0]) ∧ MapIs S11.first (.agg #[.slice a 33 cap]) w' ∧ Below w.heap.size w w' := by
  refine (new11_any 1 w).mono ?_
  rintro e w' ⟨V, rfl, hM, hb⟩
  rw [S11.new_one] at hM
  obtain ⟨a, cap, rfl, hM1, _⟩ := mapOpen hM S11.first_length
  exact ⟨a, cap, rfl, hM1, hb⟩
/-- Refine of it. -/
theorem refineOne11 (V : Value) (p : Int) (w : World) (hV : MapIs S11.first V w) (h1 : 1 ≤ p) (h2 : p ≤ 4095) :
    Calls Try.prog 17 #[V, .int .i64 0, .int .i64 p] w fun e w' => e = .returned (.tuple #[.int .i64 (S11.refine S11.first 0 p), .int .i64 0]) ∧ Below w.heap.size w w' := by
  have hu : S11.usable S11.first 0 p = 0 := S11.usable_new S11.first_check (by omega) (by rw [S11.first_length]; omega) h1 h2
  have := refineM11_any S11.first V 0 p w hV
  rw [hu, show S11.refineR S11.first 0 p = S11.refine S11.first 0 p from S11.refineR_ok (c := 0) hu] at this
  exact this

set_option maxHeartbeats 1000000 in
theorem apmStarts_any (n : Int) (w : World) (h : 0 ≤ n) (h' : n ≤ 65535) :
    Calls Try.prog 6 #[.int .u16 n] w fun e w' => e = .returned (.bool true) ∧ Below w.heap.size w w' := by
  have hp := S11.ch_bounds n
  have HC := Lib.hid fun W => lawChance11_any n W h h'
  have HN := Lib.hid newOne11
  have HR := Lib.hid fun V W (hV : MapIs S11.first V W) => refineOne11 V (S11.ch n) W hV hp.1 hp.2
  have HS := Lib.hid fun W => stretch06_any (S11.ch n) W
  have hst := S11.starts (S11.ch n)
  have hsb : -3071 ≤ S06.stretch (S11.ch n) ∧ S06.stretch (S11.ch n) ≤ 3071 := S06.stretch_bounds (S11.ch n)
  have hlow : (S06.stretch (S11.ch n) + 3072).tdiv 192 * 192 - 3072 = S11.low (S11.ch n) := by
    rw [Int.tdiv_eq_ediv_of_nonneg (by omega)]
    have := S11.at_int (S11.ch n)
    unfold S11.low; omega
  have hlb : -3072 ≤ S11.low (S11.ch n) ∧ S11.low (S11.ch n) ≤ 3072 := by have := S11.at_le (S11.ch n); unfold S11.low; omega
  have HQ1 := Lib.hid fun W => squash06_any (S11.low (S11.ch n)) W
  have HQ2 := Lib.hid fun W => squash06_any (S11.low (S11.ch n) + 192) W
  generalize S06.squash (S11.low (S11.ch n)) = q1 at *
  generalize S06.squash (S11.low (S11.ch n) + 192) = q2 at *
  generalize S11.refine S11.first 0 (S11.ch n) = r at *
  generalize S11.low (S11.ch n) = lo at *
  generalize S06.stretch (S11.ch n) = st at *
  generalize S11.ch n = p at *
  obtain ⟨g1, g2⟩ := hst
  generalize S11.first = FM at *
  go_enter Try.func6, Try.ntmps6
  go_wp2_with fail
  refine (HN.out _).mono ?_
  rintro e w1 ⟨a, cap, rfl, hM1, hb1⟩
  have HM := Lib.hid fun (W : World) (hb : Below w1.heap.size w1 W) => hM1.step hb
  clear hM1
  have hB1 : Below w.heap.size w w1 := below_trans (by go_grown) hb1
  have z1 : w.heap.size ≤ w1.heap.size := hb1.size
  go_wp2_with fail
  refine (HC.out _).mono ?_
  rintro e w2 ⟨rfl, hb2⟩
  have hB2 : Below w.heap.size w w2 := below_trans (by go_grown) hb2
  have hC2 : Below w1.heap.size w1 w2 := below_trans (by go_grown) hb2
  have z2 : w1.heap.size < w2.heap.size := by have := hb2.size; simp at this; omega
  have k1 : w2.cell? ⟨w1.heap.size, 0, none⟩ = some (.slice a 33 cap) := (hb2.cell (by simp <;> omega)).trans (by go_simp)
  go_wp2_with fail
  refine (HR.out _ _ (HM.out _ (by go_grown))).mono ?_
  rintro e w3 ⟨rfl, hb3⟩
  have hB3 : Below w.heap.size w w3 := below_trans (by go_grown) hb3
  go_wp2_with fail
  refine (HS.out _).mono ?_
  rintro e w4 ⟨rfl, hb4⟩
  have hB4 : Below w.heap.size w w4 := below_trans (by go_grown) hb4
  have z4 : w.heap.size ≤ w4.heap.size := hB4.size
  go_wp2_with fail
  refine (awake11_any _).mono ?_
  rintro e w5 ⟨rfl, hb5⟩
  have hB5 : Below w.heap.size w w5 := below_trans (by go_grown) hb5
  have z5 : w.heap.size ≤ w5.heap.size := hB5.size
  go_wp2_with fail
  refine (HQ1.out _).mono ?_
  rintro e w6 ⟨rfl, hb6⟩
  have hB6 : Below w.heap.size w w6 := below_trans (by go_grown) hb6
  have z6 : w.heap.size ≤ w6.heap.size := hB6.size
  go_wp2_with fail
  refine (HQ2.out _).mono ?_
  rintro e w7 ⟨rfl, hb7⟩
  have hB7 : Below w.heap.size w w7 := below_trans (by go_grown) hb7
  have z7 : w.heap.size ≤ w7.heap.size := hB7.size
  go_wp2
  go_returns
  exact ⟨rfl, by go_grown⟩

theorem S11.ch_min (m n : Int) : 1 ≤ min (S11.ch m) (S11.ch n) ∧ min (S11.ch m) (S11.ch n) ≤ 4095 := by
  have := S11.ch_bounds m
  have := S11.ch_bounds n
  omega
theorem S11.ch_max (m n : Int) : 1 ≤ max (S11.ch m) (S11.ch n) ∧ max (S11.ch m) (S11.ch n) ≤ 4095 := by
  have := S11.ch_bounds m
  have := S11.ch_bounds n
  omega

set_option maxHeartbeats 1000000 in
theorem apmRises_any (m n : Int) (w : World) (hm : 0 ≤ m) (hm' : m ≤ 65535) (h : 0 ≤ n) (h' : n ≤ 65535) :
    Calls Try.prog 7 #[.int .u16 m, .int .u16 n] w fun e w' => e = .returned (.bool true) ∧ Below w.heap.size w w' := by
  have hp := S11.ch_min m n
  have hq := S11.ch_max m n
  have HA := Lib.hid fun W => lawChance11_any m W hm hm'
  have HC := Lib.hid fun W => lawChance11_any n W h h'
  have HN := Lib.hid newOne11
  have HR := Lib.hid fun V W (hV : MapIs S11.first V W) => refineOne11 V (min (S11.ch m) (S11.ch n)) W hV hp.1 hp.2
  have HS := Lib.hid fun V W (hV : MapIs S11.first V W) => refineOne11 V (max (S11.ch m) (S11.ch n)) W hV hq.1 hq.2
  have g1 : S11.refine S11.first 0 (min (S11.ch m) (S11.ch n)) ≤ S11.refine S11.first 0 (max (S11.ch m) (S11.ch n)) := S11.rises (by omega)
  have g2 := (S11.refine_bounds S11.first 0 (min (S11.ch m) (S11.ch n))).1
  have g3 := (S11.refine_bounds S11.first 0 (max (S11.ch m) (S11.ch n))).2
  generalize S11.refine S11.first 0 (min (S11.ch m) (S11.ch n)) = r1 at *
  generalize S11.refine S11.first 0 (max (S11.ch m) (S11.ch n)) = r2 at *
  generalize S11.ch n = p at *
  generalize S11.ch m = q at *
  generalize S11.first = FM at *
  go_enter Try.func7, Try.ntmps7
  go_wp2_with fail
  refine (HN.out _).mono ?_
  rintro e w1 ⟨a, cap, rfl, hM1, hb1⟩
  have HM := Lib.hid fun (W : World) (hb : Below w1.heap.size w1 W) => hM1.step hb
  clear hM1
  have hB1 : Below w.heap.size w w1 := below_trans (by go_grown) hb1
  have z1 : w.heap.size ≤ w1.heap.size := hb1.size
  go_wp2_with fail
  refine (HA.out _).mono ?_
  rintro e w2 ⟨rfl, hb2⟩
  have hB2 : Below w.heap.size w w2 := below_trans (by go_grown) hb2
  have hC2 : Below w1.heap.size w1 w2 := below_trans (by go_grown) hb2
  have z2 : w1.heap.size < w2.heap.size := by have := hb2.size; simp at this; omega
  have k2 : w2.cell? ⟨w1.heap.size, 0, none⟩ = some (.slice a 33 cap) := (hb2.cell (by simp <;> omega)).trans (by go_simp)
  go_wp2_with fail
  refine (HC.out _).mono ?_
  rintro e w3 ⟨rfl, hb3⟩
  have hB3 : Below w.heap.size w w3 := below_trans (by go_grown) hb3
  have hC3 : Below w1.heap.size w1 w3 := hC2.trans (hb3.mono (by omega))
  have z3 : w1.heap.size < w3.heap.size := by have := hb3.size; omega
  have k3 : w3.cell? ⟨w1.heap.size, 0, none⟩ = some (.slice a 33 cap) := (hb3.cell (by simp <;> omega)).trans (by go_simp)
  go_wp2_with fail
  refine (HA.out _).mono ?_
  rintro e w4 ⟨rfl, hb4⟩
  have hB4 : Below w.heap.size w w4 := below_trans (by go_grown) hb4
  have hC4 : Below w1.heap.size w1 w4 := hC3.trans (hb4.mono (by omega))
  have z4 : w1.heap.size < w4.heap.size := by have := hb4.size; omega
  have k4 : w4.cell? ⟨w1.heap.size, 0, none⟩ = some (.slice a 33 cap) := (hb4.cell (by simp <;> omega)).trans (by go_simp)
  go_wp2_with fail
  refine (HC.out _).mono ?_
  rintro e w5 ⟨rfl, hb5⟩
  have hB5 : Below w.heap.size w w5 := below_trans (by go_grown) hb5
  have hC5 : Below w1.heap.size w1 w5 := hC4.trans (hb5.mono (by omega))
  have z5 : w1.heap.size < w5.heap.size := by have := hb5.size; omega
  have k5 : w5.cell? ⟨w1.heap.size, 0, none⟩ = some (.slice a 33 cap) := (hb5.cell (by simp <;> omega)).trans (by go_simp)
  go_wp2_with fail
  refine (HR.out _ _ (HM.out _ hC5)).mono ?_
  rintro e w6 ⟨rfl, hb6⟩
  have hB6 : Below w.heap.size w w6 := below_trans (by go_grown) hb6
  have hC6 : Below w1.heap.size w1 w6 := hC5.trans (hb6.mono (by omega))
  have z6 : w1.heap.size < w6.heap.size := by have := hb6.size; omega
  have k6 : w6.cell? ⟨w1.heap.size, 0, none⟩ = some (.slice a 33 cap) := (hb6.cell (by simp <;> omega)).trans (by go_simp)
  go_wp2_with fail
  refine (HS.out _ _ (HM.out _ hC6)).mono ?_
  rintro e w7 ⟨rfl, hb7⟩
  have hB7 : Below w.heap.size w w7 := below_trans (by go_grown) hb7
  go_wp2_with fail
  refine (awake11_any _).mono ?_
  rintro e w8 ⟨rfl, hb8⟩
  have hB8 : Below w.heap.size w w8 := below_trans (by go_grown) hb8
  have z8 : w.heap.size ≤ w8.heap.size := hB8.size
  go_wp2
  go_returns
  exact ⟨rfl, by go_grown⟩
end Go.Proofs.Ytojdbhcgppcgkaa
