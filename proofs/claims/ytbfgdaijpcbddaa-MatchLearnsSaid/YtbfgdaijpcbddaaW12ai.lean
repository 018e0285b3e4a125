/- The reference's Predict (layer 12). No condition. -/
import Derived.Test.YtbfgdaijpcbddaaW12ah
set_option linter.unusedSimpArgs false
set_option linter.unusedVariables false
set_option linter.unusedSectionVars false
namespace Go.Proofs.Ytbfgdaijpcbddaa
open Go.RowKit

set_option maxRecDepth 100000 in
set_option maxHeartbeats 1000000 in
theorem rpredict12_any (m : S12.M) (p : Pl) (w : World) (hM : MIs m p w) :
    Calls Try.prog 19 #[MV m p] w fun e w' => e = .returned (.tuple #[.int .i64 (S12.predP m), .bool (S12.predB m)]) ∧ Below w.heap.size w w' := by
  have HCk := Lib.hid fun W hW => rcheck12_any m p W hW
  obtain ⟨C, hC⟩ : ∃ C, S12.check m = C := ⟨_, rfl⟩
  have hP : S12.predP m = if C ≠ 0 then 0 else if m.len = 0 then 2048 else if m.bit = 0 then 4096 - S08.predict (m.ctrs.getD (min m.len.toNat 15) (0, 0)).1 (m.ctrs.getD (min m.len.toNat 15) (0, 0)).2 else S08.predict (m.ctrs.getD (min m.len.toNat 15) (0, 0)).1 (m.ctrs.getD (min m.len.toNat 15) (0, 0)).2 := by
    rw [← hC]; rfl
  have hPB : S12.predB m = (decide (C = 0) && decide (m.len ≠ 0)) := by rw [← hC]; rfl
  obtain ⟨PP, hPP⟩ : ∃ C, S12.predP m = C := ⟨_, rfl⟩
  obtain ⟨PB, hPPB⟩ : ∃ C, S12.predB m = C := ⟨_, rfl⟩
  rw [hPP] at hP
  rw [hPPB] at hPB
  rw [hPP, hPPB]
  rw [hC] at HCk
  have hWF : C = 0 → m.ctrs.length = 16 ∧ 0 ≤ m.len ∧ (m.len ≠ 0 → m.bit = 0 ∨ m.bit = 1) := fun h => by
    have h2 := (S12.check_iff m).1 (hC.trans h)
    refine ⟨h2.ctrs, ?_, ?_⟩
    · rcases (S12.matched_iff m).1 h2.mat with ⟨h3, _⟩ | h3
      · omega
      · have := h3.len; omega
    · intro h0
      obtain ⟨b, hb1, hb2⟩ := (h2.Mat h0).exp
      have := S12.exp_lt hb1
      omega
  have HWF := Lib.hid hWF
  have HM := Lib.hid hM
  clear hPP hPPB hC hM hWF
  obtain ⟨bits, least, heads, bytes, at_, len, part, bit, ctrs⟩ := m
  obtain ⟨ah, ch, ab, cb, ac, cc⟩ := p
  simp only at hP hPB HWF
  unfold MV MVals at *
  simp only at *
  have B0 := Blk.new w [.int .i64 bits, .int .i64 least, .slice ah heads.length ch, .slice ab bytes.length cb, .int .i64 at_, .int .i64 len, .int .i64 part, .int .i64 bit, .slice ac ctrs.length cc] 27
  have hB0 : Below w.heap.size w (w.alloc (.cells #[.int .i64 bits, .int .i64 least, .slice ah heads.length ch, .slice ab bytes.length cb, .int .i64 at_, .int .i64 len, .int .i64 part, .int .i64 bit, .slice ac ctrs.length cc] 27)) := (Below.refl _ _).alloc (Nat.le_refl _) _
  obtain ⟨w0, hw0⟩ : ∃ w0, (w.alloc (.cells #[.int .i64 bits, .int .i64 least, .slice ah heads.length ch, .slice ab bytes.length cb, .int .i64 at_, .int .i64 len, .int .i64 part, .int .i64 bit, .slice ac ctrs.length cc] 27)) = w0 := ⟨_, rfl⟩
  rw [hw0] at hB0
  have B1 : Blk w0 w.heap.size [.int .i64 bits, .int .i64 least, .slice ah heads.length ch, .slice ab bytes.length cb, .int .i64 at_, .int .i64 len, .int .i64 part, .int .i64 bit, .slice ac ctrs.length cc] 27 := by rw [← hw0]; exact B0
  clear B0
  obtain ⟨x0, x1, x2, x3, x4, x5, x6, x7, x8⟩ := B1.nine
  go_enter Try.func19, Try.ntmps19
  go_wp2_with fail
  refine (HCk.out _ (HM.out.step hB0)).mono ?_
  rintro e w1 ⟨rfl, hb1⟩
  have hB1 := below_trans hB0 hb1
  have B2 := B1.step hb1
  clear x0 x1 x2 x3 x4 x5 x6 x7 x8 B1 hw0
  by_cases hC0 : ¬ C = 0
  · rw [if_pos hC0] at hP
    rw [decide_eq_false hC0, Bool.false_and] at hPB
    subst hP hPB
    have e1 : (C != 0) = true := by simp [hC0]
    go_wp2
    go_returns
    exact ⟨rfl, hB1⟩
  replace hC0 := Classical.not_not.1 hC0
  subst hC0
  rw [if_neg (by simp)] at hP
  rw [decide_eq_true rfl, Bool.true_and] at hPB
  obtain ⟨x0, x1, x2, x3, x4, x5, x6, x7, x8⟩ := B2.nine
  by_cases hl0 : len = 0
  · rw [if_pos hl0] at hP
    rw [decide_eq_false (fun h => h hl0)] at hPB
    subst hP hPB
    have e1 : (len == 0) = true := by simp [hl0]
    go_wp2
    go_returns
    exact ⟨rfl, hB1⟩
  rw [if_neg hl0] at hP
  rw [decide_eq_true hl0] at hPB
  subst hPB
  have e1 : (len == 0) = false := by simp [hl0]
  obtain ⟨hc16, hl00, hbit2⟩ := HWF.out rfl
  have hbits := hbit2 hl0
  obtain ⟨k, hk⟩ : ∃ k : Nat, min len.toNat 15 = k := ⟨_, rfl⟩
  rw [hk] at hP
  have hki : min len 15 = (k : Int) := by omega
  have hkc : k < ctrs.length := by omega
  obtain ⟨g, o, rfl, hg1, hg2⟩ := Cts_cells (HM.out.rdc) (k := k) (by simp only; omega)
  simp only at hg1 hg2
  obtain ⟨cp, hcp⟩ : ∃ cp, ctrs.getD k (0, 0) = cp := ⟨_, rfl⟩
  rw [hcp] at hg1 hg2 hP
  have HPr := Lib.hid fun W => refPredict08_any cp.1 cp.2 W
  obtain ⟨pv, hpv⟩ : ∃ pv, S08.predict cp.1 cp.2 = pv := ⟨_, rfl⟩
  have hpr : 0 ≤ pv ∧ pv ≤ 4096 := by rw [← hpv]; unfold S08.predict; split <;> omega
  rw [hpv] at HPr hP
  obtain ⟨p0, p1⟩ := cp
  simp only at hg1 hg2 HPr
  have H16 := Lib.hid hc16
  clear hc16 hcp hpv HWF hl00 hk hbit2
  have lg : g < w.heap.size := block_lt_of_cell hg1
  have y1 : w1.cell? ⟨g, o + k * 2, none⟩ = some (.int .i64 p0) := (hB1.cell (p := ⟨g, o + k * 2, none⟩) lg).trans hg1
  have y2 : w1.cell? ⟨g, o + k * 2 + 1, none⟩ = some (.int .i64 p1) := (hB1.cell (p := ⟨g, o + k * 2 + 1, none⟩) lg).trans hg2
  clear hg1 hg2
  go_wp2_with fail
  refine (HPr.out _).mono ?_
  rintro e w4 ⟨rfl, hb4⟩
  have hB4 := below_trans hB1 hb4
  have B5 := B2.step hb4
  have z7 : w4.cell? ⟨w.heap.size, 7, none⟩ = some (.int .i64 bit) := B5.cell 7
  rcases hbits with rfl | rfl
  · rw [if_pos rfl] at hP
    subst hP
    go_wp2
    go_returns
    exact ⟨rfl, hB4⟩
  · rw [if_neg (by omega)] at hP
    subst hP
    go_wp2
    go_returns
    exact ⟨rfl, hB4⟩
end Go.Proofs.Ytbfgdaijpcbddaa
