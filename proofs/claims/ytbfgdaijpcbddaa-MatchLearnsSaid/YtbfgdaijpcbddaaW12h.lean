/- Predict (layer 12). No condition. -/
import Derived.Test.YtbfgdaijpcbddaaW12g
set_option linter.unusedSimpArgs false
set_option linter.unusedVariables false
set_option linter.unusedSectionVars false
namespace Go.Proofs.Ytbfgdaijpcbddaa
open Go.RowKit

set_option maxHeartbeats 1000000 in
theorem counter12_any (S : Nat) (m : S12.M) (p : Pl) (w : World) (hB : Blk w S (MVals m p) 60) (hc : m.ctrs.length = 16) (hl : 1 ≤ m.len) (g o : Nat) (ha : p.ac = some ⟨g, o, none⟩) :
    Calls Try.prog 31 #[.pointer (some ⟨S, 0, none⟩)] w fun e w' => e = .returned (.pointer (some ⟨g, o + min m.len.toNat 15 * 2, none⟩)) ∧ Below w.heap.size w w' := by
  obtain ⟨bits, least, heads, bytes, at_, len, part, bit, ctrs⟩ := m
  obtain ⟨ah, ch, ab, cb, ac, cc⟩ := p
  simp only at hc hl ha ⊢
  subst ha
  unfold MVals at hB
  simp only at hB
  obtain ⟨k, hk⟩ : ∃ k : Nat, min len.toNat 15 = k := ⟨_, rfl⟩
  rw [hk]
  have hki : min len 15 = (k : Int) := by omega
  have hk15 : k < ctrs.length := by omega
  have hC : Cells w [(⟨S, 5, none⟩, .int .i64 len), (⟨S, 8, none⟩, .slice (some ⟨g, o, none⟩) ctrs.length cc)] := ⟨hB.cell 5, hB.cell 8, trivial⟩
  clear hc
  go_enter Try.func31, Try.ntmps31
  go_wp2
  refine wp_region_seq 12 1 [(true, [true, true, true, true, true, true, true, true, true, true, true, true])] _ _ (Keeps w [(⟨S, 5, none⟩, .int .i64 len), (⟨S, 8, none⟩, .slice (some ⟨g, o, none⟩) ctrs.length cc)]) (by kernel_rfl) (List.take_append_drop 12 _).symm (by kernel_rfl) (by kernel_rfl) (by kernel_rfl) (by kernel_rfl) (Keeps.start hC) (fun Y Q4 F4 hY hF => ?_)
  simp only [phased, List.flatMap_cons, List.flatMap_nil, List.take_succ_cons, List.take_zero, List.drop_succ_cons, List.drop_zero, sel_true, sel_false, sel_nil, List.map_cons, List.map_nil, List.cons_append, List.nil_append, List.append_nil]
  repeat
    apply wpSeq_read (by first | rfl | (rw [hY]; rfl))
    · intro w2 hS2
      (try simp only [Keeps, Cells] at hS2)
      (try simp only [HasC, Cells] at hS2)
      go_simp
      with_reducible rfl
    simp only [Act.put, List.setIfInBounds_toArray, List.set_cons_zero, List.set_cons_succ]
  refine wpSeq_done (hF.out _ _ (fun K hK => ?_))
  clear hF hY
  go_wp2
  refine OnlyK.mk (hK.out _ _ ?_)
  clear hK
  go_wp2
  go_returns
  exact ⟨rfl, (Keeps.start hC).1⟩

/-- The cells of a counter. -/
theorem Cts_cells {w : World} {a : Option Addr} {l : List (Int × Int)} (h : Rd w a (Cts l)) {k : Nat} (hk : k < l.length) : ∃ g o, a = some ⟨g, o, none⟩ ∧
    w.cell? ⟨g, o + k * 2, none⟩ = some (.int .i64 (l.getD k (0, 0)).1) ∧ w.cell? ⟨g, o + k * 2 + 1, none⟩ = some (.int .i64 (l.getD k (0, 0)).2) := by
  obtain ⟨g, o, rfl, hcs⟩ := h (fun e => by have := congrArg List.length e; rw [Cts_length] at this; simp at this; omega)
  refine ⟨g, o, rfl, ?_, ?_⟩
  · rw [hcs (k * 2) _ (Cts_at hk).1, S12.getD_in _ _ hk]
  · rw [Nat.add_assoc, hcs (k * 2 + 1) _ (Cts_at hk).2, S12.getD_in _ _ hk]

set_option maxRecDepth 100000 in
set_option maxHeartbeats 1000000 in
theorem predict12_any (m : S12.M) (p : Pl) (w : World) (hM : MIs m p w) :
    Calls Try.prog 13 #[MV m p] w fun e w' => e = .returned (.tuple #[.int .i64 (S12.predP m), .bool (S12.predB m)]) ∧ Below w.heap.size w w' := by
  have HCk := Lib.hid fun W hW => check12_any m p W hW
  obtain ⟨C, hC⟩ : ∃ C, S12.check m = C := ⟨_, rfl⟩
  have hP : S12.predP m = if C ≠ 0 then 0 else if m.len = 0 then 2048 else if m.bit = 0 then 4096 - S08.predict (m.ctrs.getD (min m.len.toNat 15) (0, 0)).1 (m.ctrs.getD (min m.len.toNat 15) (0, 0)).2 else S08.predict (m.ctrs.getD (min m.len.toNat 15) (0, 0)).1 (m.ctrs.getD (min m.len.toNat 15) (0, 0)).2 := by
    rw [← hC]; rfl
  have hPB : S12.predB m = (decide (C = 0) && decide (m.len ≠ 0)) := by rw [← hC]; rfl
  obtain ⟨PP, hPP⟩ : ∃ C, S12.predP m = C := ⟨_, rfl⟩
  obtain ⟨PB, hPPB⟩ : ∃ C, S12.predB m = C := ⟨_, rfl⟩
  rw [hPP] at hP
  rw [hPPB] at hPB
  rw [hPP, hPPB]
  rw [hC] at HCk
  have hWF : C = 0 → m.ctrs.length = 16 ∧ 0 ≤ m.len := fun h => by
    have h2 := (S12.check_iff m).1 (hC.trans h)
    refine ⟨h2.ctrs, ?_⟩
    rcases (S12.matched_iff m).1 h2.mat with ⟨h3, _⟩ | h3
    · omega
    · have := h3.len; omega
  have HWF := Lib.hid hWF
  have HM := Lib.hid hM
  clear hPP hPPB hC hM hWF
  obtain ⟨bits, least, heads, bytes, at_, len, part, bit, ctrs⟩ := m
  obtain ⟨ah, ch, ab, cb, ac, cc⟩ := p
  simp only at hP hPB HWF
  have HCo := Lib.hid fun S W => counter12_any S ⟨bits, least, heads, bytes, at_, len, part, bit, ctrs⟩ ⟨ah, ch, ab, cb, ac, cc⟩ W
  unfold MV MVals at *
  simp only at *
  have B0 := Blk.new w [.int .i64 bits, .int .i64 least, .slice ah heads.length ch, .slice ab bytes.length cb, .int .i64 at_, .int .i64 len, .int .i64 part, .int .i64 bit, .slice ac ctrs.length cc] 27
  have hB0 : Below w.heap.size w (w.alloc (.cells #[.int .i64 bits, .int .i64 least, .slice ah heads.length ch, .slice ab bytes.length cb, .int .i64 at_, .int .i64 len, .int .i64 part, .int .i64 bit, .slice ac ctrs.length cc] 27)) := (Below.refl _ _).alloc (Nat.le_refl _) _
  obtain ⟨w0, hw0⟩ : ∃ w0, (w.alloc (.cells #[.int .i64 bits, .int .i64 least, .slice ah heads.length ch, .slice ab bytes.length cb, .int .i64 at_, .int .i64 len, .int .i64 part, .int .i64 bit, .slice ac ctrs.length cc] 27)) = w0 := ⟨_, rfl⟩
  rw [hw0] at hB0
  have B1 : Blk w0 w.heap.size [.int .i64 bits, .int .i64 least, .slice ah heads.length ch, .slice ab bytes.length cb, .int .i64 at_, .int .i64 len, .int .i64 part, .int .i64 bit, .slice ac ctrs.length cc] 27 := by rw [← hw0]; exact B0
  clear B0
  have x0 := B1.cell 0
  have x1 := B1.cell 1
  have x2 := B1.cell 2
  have x3 := B1.cell 3
  have x4 := B1.cell 4
  have x5 := B1.cell 5
  have x6 := B1.cell 6
  have x7 := B1.cell 7
  have x8 := B1.cell 8
  simp only [List.getElem?_cons_zero, List.getElem?_cons_succ] at x0 x1 x2 x3 x4 x5 x6 x7 x8
  go_enter Try.func13, Try.ntmps13
  go_wp2_with fail
  refine (HCk.out _ (HM.out.step hB0)).mono ?_
  rintro e w1 ⟨rfl, hb1⟩
  have hB1 := below_trans hB0 hb1
  have B2 := B1.step hb1
  clear x0 x1 x2 x3 x4 x5 x6 x7 x8 B1 hw0
  by_cases hC0 : ¬ C = 0
  · rw [if_pos hC0] at hP
    rw [decide_eq_false hC0, Bool.false_and] at hPB
    subst hP hPB
    have e1 : (C != 0) = true := by simp [hC0]
    go_wp2
    go_returns
    exact ⟨rfl, hB1⟩
  replace hC0 := Classical.not_not.1 hC0
  subst hC0
  rw [if_neg (by simp)] at hP
  rw [decide_eq_true rfl, Bool.true_and] at hPB
  have x0 := B2.cell 0
  have x1 := B2.cell 1
  have x2 := B2.cell 2
  have x3 := B2.cell 3
  have x4 := B2.cell 4
  have x5 := B2.cell 5
  have x6 := B2.cell 6
  have x7 := B2.cell 7
  have x8 := B2.cell 8
  simp only [List.getElem?_cons_zero, List.getElem?_cons_succ] at x0 x1 x2 x3 x4 x5 x6 x7 x8
  by_cases hl0 : len = 0
  · rw [if_pos hl0] at hP
    rw [decide_eq_false (fun h => h hl0)] at hPB
    subst hP hPB
    have e1 : (len == 0) = true := by simp [hl0]
    go_wp2
    go_returns
    exact ⟨rfl, hB1⟩
  rw [if_neg hl0] at hP
  rw [decide_eq_true hl0] at hPB
  subst hPB
  have e1 : (len == 0) = false := by simp [hl0]
  obtain ⟨hc16, hl00⟩ := HWF.out rfl
  obtain ⟨k, hk⟩ : ∃ k : Nat, min len.toNat 15 = k := ⟨_, rfl⟩
  rw [hk] at hP
  obtain ⟨g, o, rfl, hg1, hg2⟩ := Cts_cells (HM.out.rdc) (k := k) (by simp only; omega)
  simp only at hg1 hg2
  obtain ⟨cp, hcp⟩ : ∃ cp, ctrs.getD k (0, 0) = cp := ⟨_, rfl⟩
  rw [hcp] at hg1 hg2 hP
  have HPr := Lib.hid fun W => predict08_any cp.1 cp.2 W
  obtain ⟨pv, hpv⟩ : ∃ pv, S08.predict cp.1 cp.2 = pv := ⟨_, rfl⟩
  have hpr : 0 ≤ pv ∧ pv ≤ 4096 := by rw [← hpv]; unfold S08.predict; split <;> omega
  rw [hpv] at HPr hP
  obtain ⟨p0, p1⟩ := cp
  simp only at hg1 hg2 HPr
  have HC2 := Lib.hid fun S W (hB : Blk W S _ 60) => HCo.out S W hB hc16 (by omega) g o rfl
  rw [hk] at HC2
  have H16 := Lib.hid hc16
  clear hc16 hcp hpv HCo HWF hl00 hk
  have lg : g < w.heap.size := block_lt_of_cell hg1
  go_wp2_with fail
  obtain ⟨w2, hw2⟩ : ∃ w2, w1.alloc (Obj.cells #[.int .i64 bits, .int .i64 least, .slice ah heads.length ch, .slice ab bytes.length cb, .int .i64 at_, .int .i64 len, .int .i64 part, .int .i64 bit, .slice (some ⟨g, o, none⟩) ctrs.length cc] 60) = w2 := ⟨_, rfl⟩
  have hb2 : Below w1.heap.size w1 w2 := by rw [← hw2]; exact (Below.refl _ _).alloc (Nat.le_refl _) _
  have S2 : Blk w2 w1.heap.size [.int .i64 bits, .int .i64 least, .slice ah heads.length ch, .slice ab bytes.length cb, .int .i64 at_, .int .i64 len, .int .i64 part, .int .i64 bit, .slice (some ⟨g, o, none⟩) ctrs.length cc] 60 := by rw [← hw2]; exact Blk.new w1 _ _
  rw [hw2]
  refine (HC2.out _ _ S2).mono ?_
  rintro e w3 ⟨rfl, hb3⟩
  have hB2 := below_trans hB1 hb2
  have hB3 := below_trans hB2 hb3
  have y1 : w3.cell? ⟨g, o + k * 2, none⟩ = some (.int .i64 p0) := (hB3.cell (p := ⟨g, o + k * 2, none⟩) lg).trans hg1
  have y2 : w3.cell? ⟨g, o + k * 2 + 1, none⟩ = some (.int .i64 p1) := (hB3.cell (p := ⟨g, o + k * 2 + 1, none⟩) lg).trans hg2
  clear x0 x1 x2 x3 x4 x5 x6 x7 x8 hg1 hg2 hw2 S2
  go_wp2_with fail
  refine (HPr.out _).mono ?_
  rintro e w4 ⟨rfl, hb4⟩
  have hB4 := below_trans hB3 hb4
  have B5 := (B2.step hb2).step (below_trans hb3 hb4)
  have z7 : w4.cell? ⟨w.heap.size, 7, none⟩ = some (.int .i64 bit) := B5.cell 7
  by_cases hbit : bit = 0
  · rw [if_pos hbit] at hP
    have eb : (bit == 0) = true := by simp [hbit]
    subst hP
    go_wp2
    go_returns
    exact ⟨rfl, hB4⟩
  · rw [if_neg hbit] at hP
    have eb : (bit == 0) = false := by simp [hbit]
    subst hP
    go_wp2
    go_returns
    exact ⟨rfl, hB4⟩
end Go.Proofs.Ytbfgdaijpcbddaa
