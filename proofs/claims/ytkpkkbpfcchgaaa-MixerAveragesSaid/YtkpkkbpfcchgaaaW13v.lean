/- The laws MixerMakes, MixerMixes and MixerLearns at every input. No condition. -/
import Derived.Test.YtkpkkbpfcchgaaaW13u
set_option linter.unusedSimpArgs false
set_option linter.unusedVariables false
set_option linter.unusedSectionVars false
namespace Go.Proofs.Ytkpkkbpfcchgaaa
open Go.RowKit

set_option maxHeartbeats 1000000 in
theorem mixerMixes_any (n : Int) (L : List (List Int)) (V : Value) (c : Int) (xs : List Int) (a : Option Addr) (cap : Nat) (w : World) (hV : MixIs n L V w) (hlen : xs.length ≤ 9223372036854775807) (hrd : Rd w a (Ints xs)) :
    Calls Try.prog 4 #[V, .int .i64 c, .slice a xs.length cap] w fun e w' => e = .returned (.bool true) ∧ Below w.heap.size w w' := by
  obtain ⟨ma, mc, rfl, hM⟩ := mixShape hV
  have HF := Lib.hid fun W (hb : Below w.heap.size w W) => few13_any n L _ W (hM.step hb)
  have H1 := Lib.hid fun W (hb : Below w.heap.size w W) => mixM13_any n L _ c xs a cap W (hM.step hb) hlen (hrd.step hb)
  have H2 := Lib.hid fun W (hb : Below w.heap.size w W) => refMix13_any n L _ c xs a cap W (hM.step hb) hlen (hrd.step hb)
  have hways : S13.few L = false ∨ (S13.few L = true ∧ (100 : Int) < xs.length) ∨ (S13.few L = true ∧ ¬ (100 : Int) < xs.length) := by
    cases S13.few L
    · left; rfl
    · right; by_cases h : (100 : Int) < xs.length
      · left; exact ⟨rfl, h⟩
      · right; exact ⟨rfl, h⟩
  clear hV hM hrd
  generalize S13.mixR n L c xs = r at *
  generalize S13.usable 16 n L c xs = y at *
  generalize S13.few L = f at *
  generalize xs.length = l at *
  generalize L.length = m at *
  rcases hways with rfl | ⟨rfl, g⟩ | ⟨rfl, g⟩
  · go_enter Try.func4, Try.ntmps4
    go_wp2_with fail
    refine (HF.out _ (by go_grown)).mono ?_
    rintro e w1 ⟨rfl, hb1⟩
    have hB1 : Below w.heap.size w w1 := below_trans (by go_grown) hb1
    have z1 : w.heap.size ≤ w1.heap.size := hB1.size
    go_wp2_with fail
    refine (awake13_any _).mono ?_
    rintro e w2 ⟨rfl, hb2⟩
    have hB2 : Below w.heap.size w w2 := below_trans (by go_grown) hb2
    have z2 : w.heap.size ≤ w2.heap.size := hB2.size
    go_wp2
    go_returns
    exact ⟨rfl, hB2⟩
  · go_enter Try.func4, Try.ntmps4
    go_wp2_with fail
    refine (HF.out _ (by go_grown)).mono ?_
    rintro e w1 ⟨rfl, hb1⟩
    have hB1 : Below w.heap.size w w1 := below_trans (by go_grown) hb1
    have z1 : w.heap.size ≤ w1.heap.size := hB1.size
    go_wp2_with fail
    refine (awake13_any _).mono ?_
    rintro e w2 ⟨rfl, hb2⟩
    have hB2 : Below w.heap.size w w2 := below_trans (by go_grown) hb2
    have z2 : w.heap.size ≤ w2.heap.size := hB2.size
    go_wp2
    go_returns
    exact ⟨rfl, hB2⟩
  · go_enter Try.func4, Try.ntmps4
    go_wp2_with fail
    refine (HF.out _ (by go_grown)).mono ?_
    rintro e w1 ⟨rfl, hb1⟩
    have hB1 : Below w.heap.size w w1 := below_trans (by go_grown) hb1
    have z1 : w.heap.size ≤ w1.heap.size := hB1.size
    have hs1 : w.heap.size < w1.heap.size := by have := hb1.size; simp at this; omega
    have k1 : w1.cell? ⟨w.heap.size, 0, none⟩ = some (.int .i64 n) := (hb1.cell (by simp <;> omega)).trans (by go_simp)
    have k2 : w1.cell? ⟨w.heap.size, 1, none⟩ = some (.slice ma m mc) := (hb1.cell (by simp <;> omega)).trans (by go_simp)
    go_wp2_with fail
    refine (H1.out _ hB1).mono ?_
    rintro e w2 ⟨rfl, hb2⟩
    have hB2 : Below w.heap.size w w2 := below_trans (by go_grown) hb2
    have z2 : w.heap.size ≤ w2.heap.size := hB2.size
    have hs2 : w.heap.size < w2.heap.size := by have := hb2.size; omega
    have k3 : w2.cell? ⟨w.heap.size, 0, none⟩ = some (.int .i64 n) := (hb2.cell (by simp <;> omega)).trans (by go_simp)
    have k4 : w2.cell? ⟨w.heap.size, 1, none⟩ = some (.slice ma m mc) := (hb2.cell (by simp <;> omega)).trans (by go_simp)
    go_wp2_with fail
    refine (H2.out _ hB2).mono ?_
    rintro e w3 ⟨rfl, hb3⟩
    have hB3 : Below w.heap.size w w3 := below_trans (by go_grown) hb3
    have z3 : w.heap.size ≤ w3.heap.size := hB3.size
    go_wp2_with fail
    refine (awake13_any _).mono ?_
    rintro e w4 ⟨rfl, hb4⟩
    have hB4 : Below w.heap.size w w4 := below_trans (by go_grown) hb4
    have z4 : w.heap.size ≤ w4.heap.size := hB4.size
    go_wp2
    go_returns
    exact ⟨rfl, hB4⟩

set_option maxHeartbeats 2000000 in
theorem mixerLearns_any (n : Int) (L : List (List Int)) (V : Value) (xs : List Int) (a : Option Addr) (cap : Nat) (c bit rate : Int) (w : World) (hV : MixIs n L V w) (hlen : xs.length ≤ 9223372036854775807) (hrd : Rd w a (Ints xs)) :
    Calls Try.prog 5 #[V, .slice a xs.length cap, .agg #[.int .i64 c, .int .i64 bit, .int .i64 rate]] w fun e w' => e = .returned (.bool true) ∧ Below w.heap.size w w' := by
  obtain ⟨ma, mc, rfl, hM⟩ := mixShape hV
  have HF := Lib.hid fun W (hb : Below w.heap.size w W) => few13_any n L _ W (hM.step hb)
  have H1 := Lib.hid fun W (hb : Below w.heap.size w W) => learn13_any n L _ c xs a cap bit rate W (hM.step hb) hlen (hrd.step hb)
  have H2 := Lib.hid fun W (hb : Below w.heap.size w W) => refLearn13_any n L _ c xs a cap bit rate W (hM.step hb) hlen (hrd.step hb)
  have HS := Lib.hid fun V1 V2 W => same13_eq (S13.learnN n L c xs bit rate) (S13.learnLL n L c xs bit rate) V1 V2 W
  have hways : S13.few L = false ∨ (S13.few L = true ∧ (100 : Int) < xs.length) ∨ (S13.few L = true ∧ ¬ (100 : Int) < xs.length) := by
    cases S13.few L
    · left; rfl
    · right; by_cases h : (100 : Int) < xs.length
      · left; exact ⟨rfl, h⟩
      · right; exact ⟨rfl, h⟩
  clear hV hM hrd
  generalize S13.learnN n L c xs bit rate = nn at *
  generalize S13.learnLL n L c xs bit rate = LL at *
  generalize S13.learnE n L c xs bit rate = y at *
  generalize S13.few L = f at *
  generalize xs.length = l at *
  generalize L.length = m at *
  rcases hways with rfl | ⟨rfl, g⟩ | ⟨rfl, g⟩
  · go_enter Try.func5, Try.ntmps5
    go_wp2_with fail
    refine (HF.out _ (by go_grown)).mono ?_
    rintro e w1 ⟨rfl, hb1⟩
    have hB1 : Below w.heap.size w w1 := below_trans (by go_grown) hb1
    have z1 : w.heap.size ≤ w1.heap.size := hB1.size
    go_wp2_with fail
    refine (awake13_any _).mono ?_
    rintro e w2 ⟨rfl, hb2⟩
    have hB2 : Below w.heap.size w w2 := below_trans (by go_grown) hb2
    have z2 : w.heap.size ≤ w2.heap.size := hB2.size
    go_wp2
    go_returns
    exact ⟨rfl, hB2⟩
  · go_enter Try.func5, Try.ntmps5
    go_wp2_with fail
    refine (HF.out _ (by go_grown)).mono ?_
    rintro e w1 ⟨rfl, hb1⟩
    have hB1 : Below w.heap.size w w1 := below_trans (by go_grown) hb1
    have z1 : w.heap.size ≤ w1.heap.size := hB1.size
    go_wp2_with fail
    refine (awake13_any _).mono ?_
    rintro e w2 ⟨rfl, hb2⟩
    have hB2 : Below w.heap.size w w2 := below_trans (by go_grown) hb2
    have z2 : w.heap.size ≤ w2.heap.size := hB2.size
    go_wp2
    go_returns
    exact ⟨rfl, hB2⟩
  · go_enter Try.func5, Try.ntmps5
    go_wp2_with fail
    refine (HF.out _ (by go_grown)).mono ?_
    rintro e w1 ⟨rfl, hb1⟩
    have hB1 : Below w.heap.size w w1 := below_trans (by go_grown) hb1
    have Hm1 := Lib.hid (((Blk.new w [.int .i64 n, .slice ma m mc] 24).alloc (Obj.cells #[.int .i64 c, .int .i64 bit, .int .i64 rate] 43)).step hb1)
    have Hx1 := Lib.hid (show Blk w1 (w.heap.size + 1) [.int .i64 c, .int .i64 bit, .int .i64 rate] 43 by
      have := (Blk.new (w.alloc (Obj.cells #[.int .i64 n, .slice ma m mc] 24)) [.int .i64 c, .int .i64 bit, .int .i64 rate] 43).step hb1
      simpa using this)
    have a10 := Hm1.out.cell 0
    have a11 := Hm1.out.cell 1
    have b10 := Hx1.out.cell 0
    have b11 := Hx1.out.cell 1
    have b12 := Hx1.out.cell 2
    simp only [List.getElem?_cons_zero, List.getElem?_cons_succ] at a10 a11 b10 b11 b12
    go_wp2_with fail
    refine (H1.out _ hB1).mono ?_
    rintro e w2 ⟨V2, rfl, hM2, hb2⟩
    have hB2 : Below w.heap.size w w2 := below_trans hB1 hb2
    obtain ⟨a2, cap2, rfl, hM2⟩ := mixShape hM2
    have Hm2 := Lib.hid (Hm1.out.step hb2)
    have Hx2 := Lib.hid (Hx1.out.step hb2)
    have lm2 := Hm2.out.lt
    have lx2 := Hx2.out.lt
    have a20 := Hm2.out.cell 0
    have a21 := Hm2.out.cell 1
    have b20 := Hx2.out.cell 0
    have b21 := Hx2.out.cell 1
    have b22 := Hx2.out.cell 2
    simp only [List.getElem?_cons_zero, List.getElem?_cons_succ] at a20 a21 b20 b21 b22
    have HM2 := Lib.hid fun (W : World) (hb : Below w2.heap.size w2 W) => hM2.step hb
    clear hM2
    generalize LL.length = nL at *
    go_wp2_with fail
    refine (H2.out _ (by go_grown)).mono ?_
    rintro e w3 ⟨V3, rfl, hM3, hb3⟩
    have hB3 : Below w.heap.size w w3 := below_trans (by go_grown) hb3
    have hC3 : Below w2.heap.size w2 w3 := below_trans (by go_grown) hb3
    obtain ⟨a3, cap3, rfl, hM3⟩ := mixShape hM3
    have HM3 := Lib.hid fun (W : World) (hb : Below w3.heap.size w3 W) => hM3.step hb
    have Hv3 := Lib.hid ((Blk.new w2 [.int .i64 nn, .slice a2 nL cap2] 24).step hb3)
    have lv3 := Hv3.out.lt
    have Hv3' := Lib.hid (Hv3.out.alloc (Obj.cells #[.int .i64 nn, .slice a3 LL.length cap3] 24))
    have Hu3' := Lib.hid (Blk.new w3 [.int .i64 nn, .slice a3 LL.length cap3] 24)
    clear hM3
    generalize LL.length = nL3 at *
    go_wp2_with fail
    refine (awake13_any _).mono ?_
    rintro e w4 ⟨rfl, hb4⟩
    have hB4 : Below w.heap.size w w4 := below_trans (by go_grown) hb4
    have hC4 : Below w2.heap.size w2 w4 := below_trans (by go_grown) hb4
    have hD4 : Below w3.heap.size w3 w4 := below_trans (by go_grown) hb4
    have Hv4 := Lib.hid (Hv3'.out.step hb4)
    have Hu4 := Lib.hid (Hu3'.out.step hb4)
    have v40 := Hv4.out.cell 0
    have v41 := Hv4.out.cell 1
    have u40 := Hu4.out.cell 0
    have u41 := Hu4.out.cell 1
    simp only [List.getElem?_cons_zero, List.getElem?_cons_succ] at v40 v41 u40 u41
    go_wp2_with fail
    refine (HS.out _ _ _ (HM2.out _ hC4) (HM3.out _ hD4)).mono ?_
    rintro e w5 ⟨rfl, hb5⟩
    have hB5 : Below w.heap.size w w5 := below_trans hB4 hb5
    go_wp2
    go_returns
    exact ⟨rfl, hB5⟩

set_option maxHeartbeats 2000000 in
theorem mixerMakes_any (p c : Int) (n : Int) (L : List (List Int)) (V : Value) (w : World) (hV : MixIs n L V w) :
    Calls Try.prog 3 #[.int .i64 p, .int .i64 c, V] w fun e w' => e = .returned (.bool true) ∧ Below w.heap.size w w' := by
  obtain ⟨ma, mc, rfl, hM⟩ := mixShape hV
  have HF := Lib.hid fun W (hb : Below w.heap.size w W) => few13_any n L _ W (hM.step hb)
  have H1 := Lib.hid fun W => new13_any p c W
  have H2 := Lib.hid fun W => refNew13_any p c W
  have H3 := Lib.hid fun W (hb : Below w.heap.size w W) => check13_any n L _ W (hM.step hb)
  have H4 := Lib.hid fun W (hb : Below w.heap.size w W) => refCheck13_any n L _ W (hM.step hb)
  have HS := Lib.hid fun V1 V2 W => same13_eq (S13.newN p c) (S13.newL p c) V1 V2 W
  have hways : S13.few L = false ∨ (S13.few L = true ∧ 100 < c ∧ c ≤ 65536) ∨ (S13.few L = true ∧ 100 < c ∧ ¬ c ≤ 65536) ∨ (S13.few L = true ∧ ¬ 100 < c) := by
    cases S13.few L
    · left; rfl
    · right
      by_cases h : 100 < c
      · by_cases h2 : c ≤ 65536
        · left; exact ⟨rfl, h, h2⟩
        · right; left; exact ⟨rfl, h, h2⟩
      · right; right; exact ⟨rfl, h⟩
  clear hV hM
  generalize S13.newN p c = nn at *
  generalize S13.newL p c = LL at *
  generalize S13.newE p c = y at *
  generalize S13.check 16 n L = ck at *
  generalize S13.few L = f at *
  generalize L.length = m at *
  rcases hways with rfl | ⟨rfl, g, g2⟩ | ⟨rfl, g, g2⟩ | ⟨rfl, g⟩
  · go_enter Try.func3, Try.ntmps3
    go_wp2_with fail
    refine (HF.out _ (by go_grown)).mono ?_
    rintro e w1 ⟨rfl, hb1⟩
    have hB1 : Below w.heap.size w w1 := below_trans (by go_grown) hb1
    have z1 : w.heap.size ≤ w1.heap.size := hB1.size
    go_wp2_with fail
    refine (awake13_any _).mono ?_
    rintro e w2 ⟨rfl, hb2⟩
    have hB2 : Below w.heap.size w w2 := below_trans (by go_grown) hb2
    have z2 : w.heap.size ≤ w2.heap.size := hB2.size
    go_wp2
    go_returns
    exact ⟨rfl, hB2⟩
  · go_enter Try.func3, Try.ntmps3
    go_wp2_with fail
    refine (HF.out _ (by go_grown)).mono ?_
    rintro e w1 ⟨rfl, hb1⟩
    have hB1 : Below w.heap.size w w1 := below_trans (by go_grown) hb1
    have z1 : w.heap.size ≤ w1.heap.size := hB1.size
    go_wp2_with fail
    refine (awake13_any _).mono ?_
    rintro e w2 ⟨rfl, hb2⟩
    have hB2 : Below w.heap.size w w2 := below_trans (by go_grown) hb2
    have z2 : w.heap.size ≤ w2.heap.size := hB2.size
    go_wp2
    go_returns
    exact ⟨rfl, hB2⟩
  all_goals
    go_enter Try.func3, Try.ntmps3
    go_wp2_with fail
    refine (HF.out _ (by go_grown)).mono ?_
    rintro e w1 ⟨rfl, hb1⟩
    have hB1 : Below w.heap.size w w1 := below_trans (by go_grown) hb1
    have Hm1 := Lib.hid ((Blk.new w [.int .i64 n, .slice ma m mc] 24).step hb1)
    go_wp2_with fail
    refine (H1.out _).mono ?_
    rintro e w2 ⟨V2, rfl, hM2, hb2⟩
    have hB2 : Below w.heap.size w w2 := below_trans hB1 hb2
    obtain ⟨a2, cap2, rfl, hM2⟩ := mixShape hM2
    have Hm2 := Lib.hid (Hm1.out.step hb2)
    have lm2 := Hm2.out.lt
    have HM2 := Lib.hid fun (W : World) (hb : Below w2.heap.size w2 W) => hM2.step hb
    clear hM2
    generalize LL.length = nL at *
    go_wp2_with fail
    refine (H2.out _).mono ?_
    rintro e w3 ⟨V3, rfl, hM3, hb3⟩
    have hB3 : Below w.heap.size w w3 := below_trans (by go_grown) hb3
    have hC3 : Below w2.heap.size w2 w3 := below_trans (by go_grown) hb3
    obtain ⟨a3, cap3, rfl, hM3⟩ := mixShape hM3
    have HM3 := Lib.hid fun (W : World) (hb : Below w3.heap.size w3 W) => hM3.step hb
    have Hm3 := Lib.hid (((Hm2.out.alloc (Obj.cells #[.int .i64 nn, .slice a2 nL cap2] 24)).step hb3).alloc (Obj.cells #[.int .i64 nn, .slice a3 LL.length cap3] 24))
    have Hv3 := Lib.hid (((Blk.new w2 [.int .i64 nn, .slice a2 nL cap2] 24).step hb3).alloc (Obj.cells #[.int .i64 nn, .slice a3 LL.length cap3] 24))
    have Hu3 := Lib.hid (Blk.new w3 [.int .i64 nn, .slice a3 LL.length cap3] 24)
    have m30 := Hm3.out.cell 0
    have m31 := Hm3.out.cell 1
    have v30 := Hv3.out.cell 0
    have v31 := Hv3.out.cell 1
    have u30 := Hu3.out.cell 0
    have u31 := Hu3.out.cell 1
    simp only [List.getElem?_cons_zero, List.getElem?_cons_succ] at m30 m31 v30 v31 u30 u31
    clear hM3
    have z3 : w.heap.size ≤ w3.heap.size := hB3.size
    have z23 : w2.heap.size ≤ w3.heap.size := hC3.size
    generalize LL.length = nL3 at *
    obtain ⟨w4, hw4⟩ : ∃ w4, w4 = w3.alloc (Obj.cells #[.int .i64 nn, .slice a3 nL3 cap3] 24) := ⟨_, rfl⟩
    have hB4 : Below w.heap.size w w4 := by rw [hw4]; go_grown
    have hC4 : Below w2.heap.size w2 w4 := by rw [hw4]; go_grown
    have hD4 : Below w3.heap.size w3 w4 := by rw [hw4]; go_grown
    go_wp2
    rw [← hw4] at m30 m31 v30 v31 u30 u31 ⊢
    refine wp_region_all 19 (fun W => Keeps w4 [(⟨w.heap.size, 0, none⟩, .int .i64 n), (⟨w.heap.size, 1, none⟩, .slice ma m mc), (⟨w2.heap.size, 0, none⟩, .int .i64 nn), (⟨w2.heap.size, 1, none⟩, .slice a2 nL cap2), (⟨w3.heap.size, 0, none⟩, .int .i64 nn), (⟨w3.heap.size, 1, none⟩, .slice a3 nL3 cap3)] W) (by kernel_rfl) rfl (by kernel_rfl) (Keeps.start (by simp only [Cells]; exact ⟨m30, m31, v30, v31, u30, u31, trivial⟩)) (fun Y F hY hF => ?_)
    apply wpSteady_call (by first | rfl | (rw [hY]; rfl))
    · intro w2 ⟨hB2, hk2⟩
      simp only [Cells] at hk2
      go_simp
      with_reducible exact ⟨rfl, rfl⟩
    · intro w2 hS2
      have hk2 := hS2.2
      simp only [Cells] at hk2
      refine (awake13_any _).mono ?_
      rintro e w3 ⟨rfl, hb3⟩
      exact ⟨rfl, hS2.step hb3⟩
    simp only [Act.put, List.setIfInBounds_toArray, List.set_cons_zero, List.set_cons_succ]
    repeat
      apply wpSteady_value (by first | rfl | (rw [hY]; rfl))
      · intro w2 ⟨hB2, hk2⟩
        simp only [Cells] at hk2
        go_simp
        with_reducible rfl
      simp only [Act.put, List.setIfInBounds_toArray, List.set_cons_zero, List.set_cons_succ]
    apply wpSteady_call (by first | rfl | (rw [hY]; rfl))
    · intro w2 ⟨hB2, hk2⟩
      simp only [Cells] at hk2
      go_simp
      with_reducible exact ⟨rfl, rfl⟩
    · intro w2 hS2
      have hk2 := hS2.2
      simp only [Cells] at hk2
      refine (HS.out _ _ _ (HM2.out _ (below_trans hC4 hS2.1)) (HM3.out _ (below_trans hD4 hS2.1))).mono ?_
      rintro e w3 ⟨rfl, hb3⟩
      exact ⟨rfl, hS2.step hb3⟩
    simp only [Act.put, List.setIfInBounds_toArray, List.set_cons_zero, List.set_cons_succ]
    repeat
      apply wpSteady_value (by first | rfl | (rw [hY]; rfl))
      · intro w2 ⟨hB2, hk2⟩
        simp only [Cells] at hk2
        go_simp
        with_reducible rfl
      simp only [Act.put, List.setIfInBounds_toArray, List.set_cons_zero, List.set_cons_succ]
    apply wpSteady_call (by first | rfl | (rw [hY]; rfl))
    · intro w2 ⟨hB2, hk2⟩
      simp only [Cells] at hk2
      go_simp
      with_reducible exact ⟨rfl, rfl⟩
    · intro w2 hS2
      have hk2 := hS2.2
      simp only [Cells] at hk2
      refine (H3.out _ (below_trans hB4 hS2.1)).mono ?_
      rintro e w3 ⟨rfl, hb3⟩
      exact ⟨rfl, hS2.step hb3⟩
    simp only [Act.put, List.setIfInBounds_toArray, List.set_cons_zero, List.set_cons_succ]
    repeat
      apply wpSteady_value (by first | rfl | (rw [hY]; rfl))
      · intro w2 ⟨hB2, hk2⟩
        simp only [Cells] at hk2
        go_simp
        with_reducible rfl
      simp only [Act.put, List.setIfInBounds_toArray, List.set_cons_zero, List.set_cons_succ]
    apply wpSteady_call (by first | rfl | (rw [hY]; rfl))
    · intro w2 ⟨hB2, hk2⟩
      simp only [Cells] at hk2
      go_simp
      with_reducible exact ⟨rfl, rfl⟩
    · intro w2 hS2
      have hk2 := hS2.2
      simp only [Cells] at hk2
      refine (H4.out _ (below_trans hB4 hS2.1)).mono ?_
      rintro e w3 ⟨rfl, hb3⟩
      exact ⟨rfl, hS2.step hb3⟩
    simp only [Act.put, List.setIfInBounds_toArray, List.set_cons_zero, List.set_cons_succ]
    repeat
      apply wpSteady_value (by first | rfl | (rw [hY]; rfl))
      · intro w2 ⟨hB2, hk2⟩
        simp only [Cells] at hk2
        go_simp
        with_reducible rfl
      simp only [Act.put, List.setIfInBounds_toArray, List.set_cons_zero, List.set_cons_succ]
    refine hF.out _ (fun w5 hS5 => ?_)
    clear hF hY
    have hB5 : Below w.heap.size w w5 := below_trans hB4 hS5.1
    go_wp2
    go_returns
    exact ⟨rfl, hB5⟩
end Go.Proofs.Ytkpkkbpfcchgaaa
