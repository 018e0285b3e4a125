/- The laws ApmMakes, ApmRefines and ApmUpdates at every input. No condition. -/
import Derived.Test.YtojdbhcgppcgkaaW11i
set_option linter.unusedSimpArgs false
set_option linter.unusedVariables false
set_option linter.unusedSectionVars false
namespace Go.Proofs.Ytojdbhcgppcgkaa
open Go.RowKit

set_option maxHeartbeats 1000000 in
theorem apmRefines_any (xs : List Int) (V : Value) (c p : Int) (w : World) (hV : MapIs xs V w) :
    Calls Try.prog 4 #[V, .int .i64 c, .int .i64 p] w fun e w' => e = .returned (.bool true) ∧ Below w.heap.size w w' := by
  obtain ⟨a, cap, rfl, h1, h2, hrd⟩ := hV
  have HF := Lib.hid fun W => few11_any xs.length a cap W (by omega)
  by_cases hfew : (xs.length : Int) ≤ 1000
  · have H1 := Lib.hid fun W (hb : Below w.heap.size w W) => refine11_any xs a cap c p W h1 h2 (hrd.step hb)
    have H2 := Lib.hid fun W (hb : Below w.heap.size w W) => refRefine11_any xs a cap c p W h1 h2 (hrd.step hb)
    rw [decide_eq_true hfew] at HF
    clear hrd hfew
    generalize S11.refineR xs c p = r at *
    generalize S11.usable xs c p = y at *
    generalize xs.length = n at *
    go_enter Try.func4, Try.ntmps4
    go_wp2_with fail
    refine (HF.out _).mono ?_
    rintro e w1 ⟨rfl, hb1⟩
    have hB1 : Below w.heap.size w w1 := below_trans (by go_grown) hb1
    have z1 : w.heap.size ≤ w1.heap.size := hB1.size
    have hs1 : w.heap.size < w1.heap.size := by have := hb1.size; simp at this; omega
    have k1 : w1.cell? ⟨w.heap.size, 0, none⟩ = some (.slice a n cap) := (hb1.cell (by simp <;> omega)).trans (by go_simp)
    go_wp2_with fail
    refine (H1.out _ hB1).mono ?_
    rintro e w2 ⟨rfl, hb2⟩
    have hB2 : Below w.heap.size w w2 := below_trans (by go_grown) hb2
    have z2 : w.heap.size ≤ w2.heap.size := hB2.size
    have k2 : w2.cell? ⟨w.heap.size, 0, none⟩ = some (.slice a n cap) := (hb2.cell (by simp <;> omega)).trans (by go_simp)
    go_wp2_with fail
    refine (H2.out _ hB2).mono ?_
    rintro e w3 ⟨rfl, hb3⟩
    have hB3 : Below w.heap.size w w3 := below_trans (by go_grown) hb3
    have z3 : w.heap.size ≤ w3.heap.size := hB3.size
    go_wp2_with fail
    refine (awake11_any _).mono ?_
    rintro e w4 ⟨rfl, hb4⟩
    have hB4 : Below w.heap.size w w4 := below_trans (by go_grown) hb4
    have z4 : w.heap.size ≤ w4.heap.size := hB4.size
    go_wp2
    go_returns
    exact ⟨rfl, hB4⟩
  · rw [decide_eq_false hfew] at HF
    clear hrd
    generalize xs.length = n at *
    go_enter Try.func4, Try.ntmps4
    go_wp2_with fail
    refine (HF.out _).mono ?_
    rintro e w1 ⟨rfl, hb1⟩
    have hB1 : Below w.heap.size w w1 := below_trans (by go_grown) hb1
    have z1 : w.heap.size ≤ w1.heap.size := hB1.size
    go_wp2_with fail
    refine (awake11_any _).mono ?_
    rintro e w2 ⟨rfl, hb2⟩
    have hB2 : Below w.heap.size w w2 := below_trans (by go_grown) hb2
    have z2 : w.heap.size ≤ w2.heap.size := hB2.size
    go_wp2
    go_returns
    exact ⟨rfl, hB2⟩

theorem mapShape {L : List Int} {V : Value} {w : World} (h : MapIs L V w) : ∃ a cap, V = .agg #[.slice a L.length cap] ∧ MapIs L (.agg #[.slice a L.length cap]) w := by
  obtain ⟨a, cap, rfl, h1, h2, h3⟩ := h
  exact ⟨a, cap, rfl, a, cap, rfl, h1, h2, h3⟩
theorem same11_maps (L : List Int) (V1 V2 : Value) (w : World) (h1 : MapIs L V1 w) (h2 : MapIs L V2 w) :
    Calls Try.prog 14 #[V1, V2] w fun e w' => e = .returned (.bool true) ∧ Below w.heap.size w w' := by
  obtain ⟨a, cap, rfl, k1, k2, k3⟩ := h1
  obtain ⟨b, cap', rfl, k1', k2', k3'⟩ := h2
  exact same11_eq L a b cap cap' w (by omega) k3 k3'

set_option maxHeartbeats 1000000 in
theorem apmUpdates_any (xs : List Int) (V : Value) (c p bit rate : Int) (w : World) (hV : MapIs xs V w) :
    Calls Try.prog 5 #[V, .agg #[.int .i64 c, .int .i64 p, .int .i64 bit, .int .i64 rate]] w fun e w' => e = .returned (.bool true) ∧ Below w.heap.size w w' := by
  obtain ⟨a, cap, rfl, hV⟩ := mapShape hV
  have hcap : xs.length ≤ 9223372036854775807 := by
    obtain ⟨_, _, he, k1, k2, _⟩ := hV
    omega
  have HF := Lib.hid fun W => few11_any xs.length a cap W hcap
  by_cases hfew : (xs.length : Int) ≤ 1000
  · have H1 := Lib.hid fun W (hb : Below w.heap.size w W) => update11_any xs _ c p bit rate W (hV.step hb)
    have H2 := Lib.hid fun W (hb : Below w.heap.size w W) => refUpdate11_any xs _ c p bit rate W (hV.step hb)
    have HS := Lib.hid (same11_maps (S11.updL xs c p bit rate))
    rw [decide_eq_true hfew] at HF
    clear hV hfew
    generalize S11.updL xs c p bit rate = L at *
    generalize S11.updE xs c p bit rate = y at *
    generalize xs.length = n at *
    go_enter Try.func5, Try.ntmps5
    go_wp2_with fail
    refine (HF.out _).mono ?_
    rintro e w1 ⟨rfl, hb1⟩
    have hB1 : Below w.heap.size w w1 := below_trans (by go_grown) hb1
    have z1 : w.heap.size ≤ w1.heap.size := hB1.size
    have hs1 : w.heap.size + 1 < w1.heap.size := by have := hb1.size; simp at this; omega
    have k3 : w1.cell? ⟨w.heap.size, 0, none⟩ = some (.slice a n cap) := (hb1.cell (by simp <;> omega)).trans (by go_simp)
    have l0 : w1.cell? ⟨w.heap.size + 1, 0, none⟩ = some (.int .i64 c) := (hb1.cell (by simp <;> omega)).trans (by go_simp)
    have l1 : w1.cell? ⟨w.heap.size + 1, 1, none⟩ = some (.int .i64 p) := (hb1.cell (by simp <;> omega)).trans (by go_simp)
    have l2 : w1.cell? ⟨w.heap.size + 1, 2, none⟩ = some (.int .i64 bit) := (hb1.cell (by simp <;> omega)).trans (by go_simp)
    have l3 : w1.cell? ⟨w.heap.size + 1, 3, none⟩ = some (.int .i64 rate) := (hb1.cell (by simp <;> omega)).trans (by go_simp)
    go_wp2_with fail
    refine (H1.out _ hB1).mono ?_
    rintro e w2 ⟨V2, rfl, hM2, hb2⟩
    have hB2 : Below w.heap.size w w2 := below_trans hB1 hb2
    have z2 : w1.heap.size ≤ w2.heap.size := hb2.size
    have s02 : w.heap.size + 1 < w2.heap.size := by omega
    have s02' : w.heap.size < w2.heap.size := by omega
    obtain ⟨a2, cap2, rfl, hM2⟩ := mapShape hM2
    have k4 : w2.cell? ⟨w.heap.size, 0, none⟩ = some (.slice a n cap) := (hb2.cell (by simp <;> omega)).trans (by go_simp)
    have m0 : w2.cell? ⟨w.heap.size + 1, 0, none⟩ = some (.int .i64 c) := (hb2.cell (by simp <;> omega)).trans l0
    have m1 : w2.cell? ⟨w.heap.size + 1, 1, none⟩ = some (.int .i64 p) := (hb2.cell (by simp <;> omega)).trans l1
    have m2 : w2.cell? ⟨w.heap.size + 1, 2, none⟩ = some (.int .i64 bit) := (hb2.cell (by simp <;> omega)).trans l2
    have m3 : w2.cell? ⟨w.heap.size + 1, 3, none⟩ = some (.int .i64 rate) := (hb2.cell (by simp <;> omega)).trans l3
    have HM2 := Lib.hid fun (W : World) (hb : Below w2.heap.size w2 W) => hM2.step hb
    clear hM2
    generalize L.length = nL at *
    go_wp2_with fail
    refine (H2.out _ (by go_grown)).mono ?_
    rintro e w3 ⟨V3, rfl, hM3, hb3⟩
    have hB3 : Below w.heap.size w w3 := below_trans (by go_grown) hb3
    have hC3 : Below w2.heap.size w2 w3 := below_trans (by go_grown) hb3
    have z3 : w2.heap.size < w3.heap.size := by have := hb3.size; simp at this; omega
    obtain ⟨a3, cap3, rfl, hM3⟩ := mapShape hM3
    have HM3 := Lib.hid fun (W : World) (hb : Below w3.heap.size w3 W) => hM3.step hb
    clear hM3
    have k5 : w3.cell? ⟨w2.heap.size, 0, none⟩ = some (.slice a2 nL cap2) := (hb3.cell (by simp <;> omega)).trans (by go_simp)
    generalize L.length = nL3 at *
    go_wp2_with fail
    refine (awake11_any _).mono ?_
    rintro e w4 ⟨rfl, hb4⟩
    have hB4 : Below w.heap.size w w4 := below_trans (by go_grown) hb4
    have hC4 : Below w2.heap.size w2 w4 := below_trans (by go_grown) hb4
    have hD4 : Below w3.heap.size w3 w4 := below_trans (by go_grown) hb4
    have z4 : w3.heap.size < w4.heap.size := by have := hb4.size; simp at this; omega
    have k6 : w4.cell? ⟨w2.heap.size, 0, none⟩ = some (.slice a2 nL cap2) := (hb4.cell (by simp <;> omega)).trans (by go_simp)
    have k7 : w4.cell? ⟨w3.heap.size, 0, none⟩ = some (.slice a3 nL3 cap3) := (hb4.cell (by simp <;> omega)).trans (by go_simp)
    go_wp2_with fail
    refine (HS.out _ _ _ (HM2.out _ hC4) (HM3.out _ hD4)).mono ?_
    rintro e w5 ⟨rfl, hb5⟩
    have hB5 : Below w.heap.size w w5 := below_trans hB4 hb5
    go_wp2
    go_returns
    exact ⟨rfl, hB5⟩
  · rw [decide_eq_false hfew] at HF
    clear hV
    generalize xs.length = n at *
    go_enter Try.func5, Try.ntmps5
    go_wp2_with fail
    refine (HF.out _).mono ?_
    rintro e w1 ⟨rfl, hb1⟩
    have hB1 : Below w.heap.size w w1 := below_trans (by go_grown) hb1
    have z1 : w.heap.size ≤ w1.heap.size := hB1.size
    go_wp2_with fail
    refine (awake11_any _).mono ?_
    rintro e w2 ⟨rfl, hb2⟩
    have hB2 : Below w.heap.size w w2 := below_trans (by go_grown) hb2
    have z2 : w.heap.size ≤ w2.heap.size := hB2.size
    go_wp2
    go_returns
    exact ⟨rfl, hB2⟩

set_option maxHeartbeats 2000000 in
theorem apmMakes_any (c : Int) (xs : List Int) (V : Value) (w : World) (hV : MapIs xs V w) :
    Calls Try.prog 3 #[.int .i64 c, V] w fun e w' => e = .returned (.bool true) ∧ Below w.heap.size w w' := by
  obtain ⟨a, cap, rfl, k1, k2, hrd⟩ := hV
  have HF := Lib.hid fun W => few11_any xs.length a cap W (by omega)
  by_cases hfew : (xs.length : Int) ≤ 1000
  · rw [decide_eq_true hfew] at HF
    by_cases hc : 40 < c ∧ c ≤ 65536
    · obtain ⟨g1, g2⟩ := hc
      clear hrd hfew
      generalize xs.length = n at *
      go_enter Try.func3, Try.ntmps3
      go_wp2_with fail
      refine (HF.out _).mono ?_
      rintro e w1 ⟨rfl, hb1⟩
      have hB1 : Below w.heap.size w w1 := below_trans (by go_grown) hb1
      have z1 : w.heap.size ≤ w1.heap.size := hB1.size
      go_wp2_with fail
      refine (awake11_any _).mono ?_
      rintro e w2 ⟨rfl, hb2⟩
      have hB2 : Below w.heap.size w w2 := below_trans (by go_grown) hb2
      have z2 : w.heap.size ≤ w2.heap.size := hB2.size
      go_wp2
      go_returns
      exact ⟨rfl, hB2⟩
    · have H1 := Lib.hid (new11_any c)
      have H2 := Lib.hid (refNew11_any c)
      have HS := Lib.hid (same11_maps (S11.newL c))
      have H3 := Lib.hid fun W (hb : Below w.heap.size w W) => check11_any xs a cap W (by omega) (hrd.step hb)
      have H4 := Lib.hid fun W (hb : Below w.heap.size w W) => refCheck11_any xs a cap W (by omega) (hrd.step hb)
      have hways : ¬ 40 < c ∨ (40 < c ∧ ¬ c ≤ 65536) := by omega
      clear hrd hfew hc
      generalize S11.newE c = y at *
      generalize S11.newL c = L at *
      generalize S11.check xs = x at *
      generalize xs.length = n at *
      rcases hways with g | ⟨g, g'⟩
      all_goals
        go_enter Try.func3, Try.ntmps3
        go_wp2_with fail
        refine (HF.out _).mono ?_
        rintro e w1 ⟨rfl, hb1⟩
        have hB1 : Below w.heap.size w w1 := below_trans (by go_grown) hb1
        have z1 : w.heap.size ≤ w1.heap.size := hB1.size
        have hs1 : w.heap.size < w1.heap.size := by have := hb1.size; simp at this; omega
        have k8 : w1.cell? ⟨w.heap.size, 0, none⟩ = some (.slice a n cap) := (hb1.cell (by simp <;> omega)).trans (by go_simp)
        go_wp2_with fail
        refine (H1.out _).mono ?_
        rintro e w2 ⟨V2, rfl, hM2, hb2⟩
        have hB2 : Below w.heap.size w w2 := below_trans hB1 hb2
        have z2 : w1.heap.size ≤ w2.heap.size := hb2.size
        have s02 : w.heap.size < w2.heap.size := by omega
        obtain ⟨a2, cap2, rfl, hM2⟩ := mapShape hM2
        have k9 : w2.cell? ⟨w.heap.size, 0, none⟩ = some (.slice a n cap) := (hb2.cell (by simp <;> omega)).trans (by go_simp)
        have HM2 := Lib.hid fun (W : World) (hb : Below w2.heap.size w2 W) => hM2.step hb
        clear hM2
        generalize L.length = nL at *
        go_wp2_with fail
        refine (H2.out _).mono ?_
        rintro e w3 ⟨V3, rfl, hM3, hb3⟩
        have hB3 : Below w.heap.size w w3 := below_trans (by go_grown) hb3
        have hC3 : Below w2.heap.size w2 w3 := below_trans (by go_grown) hb3
        have z3 : w2.heap.size < w3.heap.size := by have := hb3.size; simp at this; omega
        have s03 : w.heap.size < w3.heap.size := by omega
        obtain ⟨a3, cap3, rfl, hM3⟩ := mapShape hM3
        have HM3 := Lib.hid fun (W : World) (hb : Below w3.heap.size w3 W) => hM3.step hb
        clear hM3
        have k10 : w3.cell? ⟨w.heap.size, 0, none⟩ = some (.slice a n cap) := (hb3.cell (by simp <;> omega)).trans (by go_simp)
        have k11 : w3.cell? ⟨w2.heap.size, 0, none⟩ = some (.slice a2 nL cap2) := (hb3.cell (by simp <;> omega)).trans (by go_simp)
        generalize L.length = nL3 at *
        go_wp2
        refine wp_region_all 19 (fun W => Keeps (w3.alloc (Obj.cells #[.slice a3 nL3 cap3] 24)) [(⟨w.heap.size, 0, none⟩, .slice a n cap), (⟨w2.heap.size, 0, none⟩, .slice a2 nL cap2), (⟨w3.heap.size, 0, none⟩, .slice a3 nL3 cap3)] W) (by kernel_rfl) rfl (by kernel_rfl) (Keeps.start (by simp only [Cells]; refine ⟨?_, ?_, ?_, trivial⟩ <;> go_simp)) (fun Y F hY hF => ?_)
        have HM2' := Lib.hid fun (W : World) (hb : Below (w3.alloc (Obj.cells #[.slice a3 nL3 cap3] 24)).heap.size (w3.alloc (Obj.cells #[.slice a3 nL3 cap3] 24)) W) => HM2.out W (below_trans (by go_grown) hb)
        have HM3' := Lib.hid fun (W : World) (hb : Below (w3.alloc (Obj.cells #[.slice a3 nL3 cap3] 24)).heap.size (w3.alloc (Obj.cells #[.slice a3 nL3 cap3] 24)) W) => HM3.out W (below_trans (by go_grown) hb)
        have HB' := Lib.hid fun (W : World) (hb : Below (w3.alloc (Obj.cells #[.slice a3 nL3 cap3] 24)).heap.size (w3.alloc (Obj.cells #[.slice a3 nL3 cap3] 24)) W) => (below_trans (by go_grown) hb : Below w.heap.size w W)
        apply wpSteady_call (by first | rfl | (rw [hY]; rfl))
        · intro w2 ⟨hB2, hk2⟩
          simp only [Cells] at hk2
          go_simp
          with_reducible exact ⟨rfl, rfl⟩
        · intro w2 hS2
          have hk2 := hS2.2
          simp only [Cells] at hk2
          refine (awake11_any _).mono ?_
          rintro e w3 ⟨rfl, hb3⟩
          exact ⟨rfl, hS2.step hb3⟩
        simp only [Act.put, List.setIfInBounds_toArray, List.set_cons_zero, List.set_cons_succ]
        repeat
          apply wpSteady_value (by first | rfl | (rw [hY]; rfl))
          · intro w2 ⟨hB2, hk2⟩
            simp only [Cells] at hk2
            go_simp
            with_reducible rfl
          simp only [Act.put, List.setIfInBounds_toArray, List.set_cons_zero, List.set_cons_succ]
        apply wpSteady_call (by first | rfl | (rw [hY]; rfl))
        · intro w2 ⟨hB2, hk2⟩
          simp only [Cells] at hk2
          go_simp
          with_reducible exact ⟨rfl, rfl⟩
        · intro w2 hS2
          have hk2 := hS2.2
          simp only [Cells] at hk2
          refine (HS.out _ _ _ (HM2'.out _ hS2.1) (HM3'.out _ hS2.1)).mono ?_
          rintro e w3 ⟨rfl, hb3⟩
          exact ⟨rfl, hS2.step hb3⟩
        simp only [Act.put, List.setIfInBounds_toArray, List.set_cons_zero, List.set_cons_succ]
        repeat
          apply wpSteady_value (by first | rfl | (rw [hY]; rfl))
          · intro w2 ⟨hB2, hk2⟩
            simp only [Cells] at hk2
            go_simp
            with_reducible rfl
          simp only [Act.put, List.setIfInBounds_toArray, List.set_cons_zero, List.set_cons_succ]
        apply wpSteady_call (by first | rfl | (rw [hY]; rfl))
        · intro w2 ⟨hB2, hk2⟩
          simp only [Cells] at hk2
          go_simp
          with_reducible exact ⟨rfl, rfl⟩
        · intro w2 hS2
          have hk2 := hS2.2
          simp only [Cells] at hk2
          refine (H3.out _ (HB'.out _ hS2.1)).mono ?_
          rintro e w3 ⟨rfl, hb3⟩
          exact ⟨rfl, hS2.step hb3⟩
        simp only [Act.put, List.setIfInBounds_toArray, List.set_cons_zero, List.set_cons_succ]
        repeat
          apply wpSteady_value (by first | rfl | (rw [hY]; rfl))
          · intro w2 ⟨hB2, hk2⟩
            simp only [Cells] at hk2
            go_simp
            with_reducible rfl
          simp only [Act.put, List.setIfInBounds_toArray, List.set_cons_zero, List.set_cons_succ]
        apply wpSteady_call (by first | rfl | (rw [hY]; rfl))
        · intro w2 ⟨hB2, hk2⟩
          simp only [Cells] at hk2
          go_simp
          with_reducible exact ⟨rfl, rfl⟩
        · intro w2 hS2
          have hk2 := hS2.2
          simp only [Cells] at hk2
          refine (H4.out _ (HB'.out _ hS2.1)).mono ?_
          rintro e w3 ⟨rfl, hb3⟩
          exact ⟨rfl, hS2.step hb3⟩
        simp only [Act.put, List.setIfInBounds_toArray, List.set_cons_zero, List.set_cons_succ]
        repeat
          apply wpSteady_value (by first | rfl | (rw [hY]; rfl))
          · intro w2 ⟨hB2, hk2⟩
            simp only [Cells] at hk2
            go_simp
            with_reducible rfl
          simp only [Act.put, List.setIfInBounds_toArray, List.set_cons_zero, List.set_cons_succ]
        refine hF.out _ (fun w4 hS4 => ?_)
        clear hF hY
        have hB4 : Below w.heap.size w w4 := HB'.out _ hS4.1
        go_wp2
        go_returns
        exact ⟨rfl, hB4⟩
  · rw [decide_eq_false hfew] at HF
    clear hrd
    generalize xs.length = n at *
    go_enter Try.func3, Try.ntmps3
    go_wp2_with fail
    refine (HF.out _).mono ?_
    rintro e w1 ⟨rfl, hb1⟩
    have hB1 : Below w.heap.size w w1 := below_trans (by go_grown) hb1
    have z1 : w.heap.size ≤ w1.heap.size := hB1.size
    go_wp2_with fail
    refine (awake11_any _).mono ?_
    rintro e w2 ⟨rfl, hb2⟩
    have hB2 : Below w.heap.size w w2 := below_trans (by go_grown) hb2
    have z2 : w.heap.size ≤ w2.heap.size := hB2.size
    go_wp2
    go_returns
    exact ⟨rfl, hB2⟩
end Go.Proofs.Ytojdbhcgppcgkaa
