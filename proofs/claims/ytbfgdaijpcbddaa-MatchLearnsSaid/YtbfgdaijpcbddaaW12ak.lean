/- The law MatchMakes, walked (layer 12). No condition. -/
import Derived.Test.YtbfgdaijpcbddaaW12aj
import Derived.Test.YtbfgdaijpcbddaaW12af
set_option linter.unusedSimpArgs false
set_option linter.unusedVariables false
set_option linter.unusedSectionVars false
namespace Go.Proofs.Ytbfgdaijpcbddaa
open Go.RowKit

set_option maxHeartbeats 1000000 in
theorem few12_big (m : S12.M) (p : Pl) (w : World) : Calls Try.prog 16 #[MV m p] w fun e w' => e = .returned (.bool (S12.few m)) ∧ Below w.heap.size w w' := by
  have hf : S12.few m = (decide (m.heads.length ≤ 300) && (decide (m.bytes.length ≤ 400) && decide (m.ctrs.length ≤ 40))) := rfl
  rw [hf]
  unfold MV MVals
  clear hf
  by_cases c1 : m.heads.length ≤ 300
  · by_cases c2 : m.bytes.length ≤ 400
    · have d1 : decide ((m.heads.length : Int) ≤ 300) = true := decide_eq_true (by omega)
      have d2 : decide ((m.bytes.length : Int) ≤ 400) = true := decide_eq_true (by omega)
      rw [decide_eq_true c1, decide_eq_true c2]
      go_enter Try.func16, Try.ntmps16
      go_wp2_with fail
      go_returns
      exact ⟨ret_bool (by simp; try omega), by go_grown⟩
    · have d1 : decide ((m.heads.length : Int) ≤ 300) = true := decide_eq_true (by omega)
      have d2 : decide ((m.bytes.length : Int) ≤ 400) = false := decide_eq_false (by omega)
      rw [decide_eq_true c1, decide_eq_false c2]
      go_enter Try.func16, Try.ntmps16
      go_wp2_with fail
      go_returns
      exact ⟨rfl, by go_grown⟩
  · have d1 : decide ((m.heads.length : Int) ≤ 300) = false := decide_eq_false (by omega)
    rw [decide_eq_false c1]
    go_enter Try.func16, Try.ntmps16
    go_wp2_with fail
    go_returns
    exact ⟨rfl, by go_grown⟩

theorem newM_ctrs (n l : Int) : (S12.newM n l).ctrs.length ≤ 100000 := by
  unfold S12.newM
  split
  · simp
  · exact Nat.zero_le _

set_option maxRecDepth 100000 in
set_option maxHeartbeats 4000000 in
theorem matchMakes_any (m : S12.M) (p : Pl) (n l : Int) (w : World) (h1 : Rd w p.ah (Ints m.heads)) (h2 : Rd w p.ab (Bts m.bytes)) (h3 : Rd w p.ac (Cts m.ctrs)) (h4 : S12.Byt m.bytes) (h5 : m.bytes.length ≤ p.cb) :
    Calls Try.prog 4 #[MV m p, .int .i64 n, .int .i64 l] w fun e w' => e = .returned (.bool true) ∧ Below w.heap.size w w' := by
  have HA := Lib.hid fun W => awake12_any W
  have HFw := Lib.hid fun W => few12_big m p W
  unfold MV MVals at HFw ⊢
  have B0 := Blk.new w [.int .i64 m.bits, .int .i64 m.least, .slice p.ah m.heads.length p.ch, .slice p.ab m.bytes.length p.cb, .int .i64 m.at_, .int .i64 m.len, .int .i64 m.part, .int .i64 m.bit, .slice p.ac m.ctrs.length p.cc] 27
  have hB0 : Below w.heap.size w (w.alloc (.cells #[.int .i64 m.bits, .int .i64 m.least, .slice p.ah m.heads.length p.ch, .slice p.ab m.bytes.length p.cb, .int .i64 m.at_, .int .i64 m.len, .int .i64 m.part, .int .i64 m.bit, .slice p.ac m.ctrs.length p.cc] 27)) := (Below.refl _ _).alloc (Nat.le_refl _) _
  obtain ⟨w0, hw0⟩ : ∃ w0, (w.alloc (.cells #[.int .i64 m.bits, .int .i64 m.least, .slice p.ah m.heads.length p.ch, .slice p.ab m.bytes.length p.cb, .int .i64 m.at_, .int .i64 m.len, .int .i64 m.part, .int .i64 m.bit, .slice p.ac m.ctrs.length p.cc] 27)) = w0 := ⟨_, rfl⟩
  rw [hw0] at hB0
  have B1 : Blk w0 w.heap.size [.int .i64 m.bits, .int .i64 m.least, .slice p.ah m.heads.length p.ch, .slice p.ab m.bytes.length p.cb, .int .i64 m.at_, .int .i64 m.len, .int .i64 m.part, .int .i64 m.bit, .slice p.ac m.ctrs.length p.cc] 27 := by rw [← hw0]; exact B0
  clear B0
  obtain ⟨x0, x1, x2, x3, x4, x5, x6, x7, x8⟩ := B1.nine
  by_cases hf : S12.few m = false
  · rw [hf] at HFw
    go_enter Try.func4, Try.ntmps4
    go_wp2_with fail
    refine (HFw.out _).mono ?_
    rintro e w1 ⟨rfl, hb1⟩
    have hB1 := below_trans hB0 hb1
    go_wp2_with fail
    refine (HA.out _).mono ?_
    rintro e w2 ⟨rfl, hb2⟩
    have hB2 := below_trans hB1 hb2
    go_wp2_with fail
    go_returns
    exact ⟨rfl, hB2⟩
  have hft : S12.few m = true := by cases e : S12.few m <;> simp_all
  rw [hft] at HFw
  have HM : MIs m p w := by
    unfold S12.few at hft
    simp only [Bool.and_eq_true, decide_eq_true_eq] at hft
    exact ⟨h1, h2, h3, h4, h5, by omega, by omega, by omega⟩
  clear hf hft h1 h2 h3 h4 h5
  have HM := Lib.hid HM
  have hbits : (10 < n ∧ n ≤ 16) ∨ (10 < n ∧ ¬ n ≤ 16) ∨ ¬ 10 < n := by omega
  rcases hbits with ⟨c1, c2⟩ | hbits
  · have d1 : decide (10 < n) = true := decide_eq_true c1
    have d2 : decide (n ≤ 16) = true := decide_eq_true c2
    go_enter Try.func4, Try.ntmps4
    go_wp2_with fail
    refine (HFw.out _).mono ?_
    rintro e w1 ⟨rfl, hb1⟩
    have hB1 := below_trans hB0 hb1
    go_wp2_with fail
    refine (HA.out _).mono ?_
    rintro e w2 ⟨rfl, hb2⟩
    have hB2 := below_trans hB1 hb2
    go_wp2_with fail
    go_returns
    exact ⟨rfl, hB2⟩
  have HN := Lib.hid fun W => new12_any n l W
  have HRN := Lib.hid fun W => rnew12_any n l W
  have HCk := Lib.hid fun W hW => check12_any m p W hW
  have HRCk := Lib.hid fun W hW => rcheck12_any m p W hW
  have HP := Lib.hid fun W hW => predict12_any m p W hW
  have HRP := Lib.hid fun W hW => rpredict12_any m p W hW
  have hcn := newM_ctrs n l
  obtain ⟨A, hA⟩ : ∃ A, S12.newM n l = A := ⟨_, rfl⟩
  obtain ⟨E, hE⟩ : ∃ E, S12.newE n l = E := ⟨_, rfl⟩
  obtain ⟨C, hC⟩ : ∃ C, S12.check m = C := ⟨_, rfl⟩
  obtain ⟨P, hP⟩ : ∃ P, S12.predP m = P := ⟨_, rfl⟩
  obtain ⟨Q, hQ⟩ : ∃ Q, S12.predB m = Q := ⟨_, rfl⟩
  rw [hA, hE] at HN HRN
  rw [hA] at hcn
  rw [hC] at HCk HRCk
  rw [hP, hQ] at HP HRP
  have HS := Lib.hid fun q1 q2 W (h1 : MIs A q1 W) (h2 : MIs A q2 W) => rsame12_eq A q1 q2 W h1 h2 hcn
  clear hA hE hC hP hQ hcn
  have hdec : (decide (10 < n) = true ∧ decide (n ≤ 16) = false) ∨ decide (10 < n) = false := by
    rcases hbits with ⟨c1, c2⟩ | c1
    · exact .inl ⟨decide_eq_true c1, decide_eq_false c2⟩
    · exact .inr (decide_eq_false c1)
  clear hbits
  unfold MV MVals at *
  rcases hdec with ⟨d1, d2⟩ | d1
  all_goals
    go_enter Try.func4, Try.ntmps4
    go_wp2_with fail
    refine (HFw.out _).mono ?_
    rintro e w1 ⟨rfl, hb1⟩
    have hB1 := below_trans hB0 hb1
    have B2 := B1.step hb1
    clear B1 x0 x1 x2 x3 x4 x5 x6 x7 x8 hw0
    go_wp2_with fail
    refine (HN.out _).mono ?_
    rintro e w2 ⟨pa, rfl, hMa, _, hb2⟩
    have hB2 := below_trans hB1 hb2
    have B3 := B2.step hb2
    clear B2
    obtain ⟨w3, hw3⟩ : ∃ w3, w2.alloc (.cells #[.int .i64 A.bits, .int .i64 A.least, .slice pa.ah A.heads.length pa.ch, .slice pa.ab A.bytes.length pa.cb, .int .i64 A.at_, .int .i64 A.len, .int .i64 A.part, .int .i64 A.bit, .slice pa.ac A.ctrs.length pa.cc] 27) = w3 := ⟨_, rfl⟩
    have hb3 : Below w2.heap.size w2 w3 := by rw [← hw3]; exact (Below.refl _ _).alloc (Nat.le_refl _) _
    obtain ⟨Ab, hAb⟩ : ∃ Ab, w2.heap.size = Ab := ⟨_, rfl⟩
    have A3 : Blk w3 Ab [.int .i64 A.bits, .int .i64 A.least, .slice pa.ah A.heads.length pa.ch, .slice pa.ab A.bytes.length pa.cb, .int .i64 A.at_, .int .i64 A.len, .int .i64 A.part, .int .i64 A.bit, .slice pa.ac A.ctrs.length pa.cc] 27 := by rw [← hw3, ← hAb]; exact Blk.new w2 _ _
    have hB3 := below_trans hB2 hb3
    have B4 := B3.step hb3
    have hMa3 := hMa.step hb3
    clear B3 hMa
    go_wp2_with fail
    refine (HRN.out _).mono ?_
    rintro e w4 ⟨pb, rfl, hMb, hb4⟩
    have hB4 := below_trans hB3 hb4
    have B5 := B4.step hb4
    have A4 := A3.step hb4
    have hMa4 := hMa3.step hb4
    clear A3 B4 hw3 hMa3
    obtain ⟨w5, hw5⟩ : ∃ w5, w4.alloc (.cells #[.int .i64 A.bits, .int .i64 A.least, .slice pb.ah A.heads.length pb.ch, .slice pb.ab A.bytes.length pb.cb, .int .i64 A.at_, .int .i64 A.len, .int .i64 A.part, .int .i64 A.bit, .slice pb.ac A.ctrs.length pb.cc] 27) = w5 := ⟨_, rfl⟩
    have hb5 : Below w4.heap.size w4 w5 := by rw [← hw5]; exact (Below.refl _ _).alloc (Nat.le_refl _) _
    obtain ⟨Bb, hBb⟩ : ∃ Bb, w4.heap.size = Bb := ⟨_, rfl⟩
    have C5 : Blk w5 Bb [.int .i64 A.bits, .int .i64 A.least, .slice pb.ah A.heads.length pb.ch, .slice pb.ab A.bytes.length pb.cb, .int .i64 A.at_, .int .i64 A.len, .int .i64 A.part, .int .i64 A.bit, .slice pb.ac A.ctrs.length pb.cc] 27 := by rw [← hw5, ← hBb]; exact Blk.new w4 _ _
    have hB5 := below_trans hB4 hb5
    have B6 := B5.step hb5
    have A5 := A4.step hb5
    have hMa5 := hMa4.step hb5
    have hMb5 := hMb.step hb5
    clear B5 A4 hMa4 hMb
    obtain ⟨x0, x1, x2, x3, x4, x5, x6, x7, x8⟩ := B6.nine
    go_wp2_with fail
    refine (HP.out _ (HM.out.step hB5)).mono ?_
    rintro e w6 ⟨rfl, hb6⟩
    have hB6 := below_trans hB5 hb6
    have B7 := B6.step hb6
    clear B6 x0 x1 x2 x3 x4 x5 x6 x7 x8 hw5
    obtain ⟨x0, x1, x2, x3, x4, x5, x6, x7, x8⟩ := B7.nine
    go_wp2_with fail
    refine (HRP.out _ (HM.out.step hB6)).mono ?_
    rintro e w7 ⟨rfl, hb7⟩
    have hB7 := below_trans hB6 hb7
    have B8 := B7.step hb7
    clear B7 x0 x1 x2 x3 x4 x5 x6 x7 x8
    have hb67 := below_trans hb6 hb7
    have A8 := A5.step hb67
    have C8 := C5.step hb67
    have hMa8 := Lib.hid (hMa5.step hb67)
    have hMb8 := Lib.hid (hMb5.step hb67)
    obtain ⟨x0, x1, x2, x3, x4, x5, x6, x7, x8⟩ := B8.nine
    obtain ⟨y0, y1, y2, y3, y4, y5, y6, y7, y8⟩ := A8.nine
    obtain ⟨z0, z1, z2, z3, z4, z5, z6, z7, z8⟩ := C8.nine
    have hC : HasC [(⟨w.heap.size, 0, none⟩, .int .i64 m.bits), (⟨w.heap.size, 1, none⟩, .int .i64 m.least), (⟨w.heap.size, 2, none⟩, .slice p.ah m.heads.length p.ch), (⟨w.heap.size, 3, none⟩, .slice p.ab m.bytes.length p.cb), (⟨w.heap.size, 4, none⟩, .int .i64 m.at_), (⟨w.heap.size, 5, none⟩, .int .i64 m.len), (⟨w.heap.size, 6, none⟩, .int .i64 m.part), (⟨w.heap.size, 7, none⟩, .int .i64 m.bit), (⟨w.heap.size, 8, none⟩, .slice p.ac m.ctrs.length p.cc), (⟨Ab, 0, none⟩, .int .i64 A.bits), (⟨Ab, 1, none⟩, .int .i64 A.least), (⟨Ab, 2, none⟩, .slice pa.ah A.heads.length pa.ch), (⟨Ab, 3, none⟩, .slice pa.ab A.bytes.length pa.cb), (⟨Ab, 4, none⟩, .int .i64 A.at_), (⟨Ab, 5, none⟩, .int .i64 A.len), (⟨Ab, 6, none⟩, .int .i64 A.part), (⟨Ab, 7, none⟩, .int .i64 A.bit), (⟨Ab, 8, none⟩, .slice pa.ac A.ctrs.length pa.cc), (⟨Bb, 0, none⟩, .int .i64 A.bits), (⟨Bb, 1, none⟩, .int .i64 A.least), (⟨Bb, 2, none⟩, .slice pb.ah A.heads.length pb.ch), (⟨Bb, 3, none⟩, .slice pb.ab A.bytes.length pb.cb), (⟨Bb, 4, none⟩, .int .i64 A.at_), (⟨Bb, 5, none⟩, .int .i64 A.len), (⟨Bb, 6, none⟩, .int .i64 A.part), (⟨Bb, 7, none⟩, .int .i64 A.bit), (⟨Bb, 8, none⟩, .slice pb.ac A.ctrs.length pb.cc)] w7 := ⟨x0, x1, x2, x3, x4, x5, x6, x7, x8, y0, y1, y2, y3, y4, y5, y6, y7, y8, z0, z1, z2, z3, z4, z5, z6, z7, z8, trivial⟩
    clear A5 C5 hMa5 hMb5
    go_wp2_with fail
    refine wp_region_seq 28 1 [(false, [true]), (true, [false, true, true, true]), (false, [false, false, false, false, true]), (true, [false, false, false, false, false, true, true, true, true, true, true, true, true, false, true]), (false, [false, false, false, false, false, false, false, false, false, false, false, false, false, true]), (false, [false, false, false, false, false, false, false, false, false, false, false, false, false, false, false, true]), (true, [false, false, false, false, false, false, false, false, false, false, false, false, false, false, false, false, true, true, true, true, true, true, true, true, true, true, true, true])] _ _ (HasC [(⟨w.heap.size, 0, none⟩, .int .i64 m.bits), (⟨w.heap.size, 1, none⟩, .int .i64 m.least), (⟨w.heap.size, 2, none⟩, .slice p.ah m.heads.length p.ch), (⟨w.heap.size, 3, none⟩, .slice p.ab m.bytes.length p.cb), (⟨w.heap.size, 4, none⟩, .int .i64 m.at_), (⟨w.heap.size, 5, none⟩, .int .i64 m.len), (⟨w.heap.size, 6, none⟩, .int .i64 m.part), (⟨w.heap.size, 7, none⟩, .int .i64 m.bit), (⟨w.heap.size, 8, none⟩, .slice p.ac m.ctrs.length p.cc), (⟨Ab, 0, none⟩, .int .i64 A.bits), (⟨Ab, 1, none⟩, .int .i64 A.least), (⟨Ab, 2, none⟩, .slice pa.ah A.heads.length pa.ch), (⟨Ab, 3, none⟩, .slice pa.ab A.bytes.length pa.cb), (⟨Ab, 4, none⟩, .int .i64 A.at_), (⟨Ab, 5, none⟩, .int .i64 A.len), (⟨Ab, 6, none⟩, .int .i64 A.part), (⟨Ab, 7, none⟩, .int .i64 A.bit), (⟨Ab, 8, none⟩, .slice pa.ac A.ctrs.length pa.cc), (⟨Bb, 0, none⟩, .int .i64 A.bits), (⟨Bb, 1, none⟩, .int .i64 A.least), (⟨Bb, 2, none⟩, .slice pb.ah A.heads.length pb.ch), (⟨Bb, 3, none⟩, .slice pb.ab A.bytes.length pb.cb), (⟨Bb, 4, none⟩, .int .i64 A.at_), (⟨Bb, 5, none⟩, .int .i64 A.len), (⟨Bb, 6, none⟩, .int .i64 A.part), (⟨Bb, 7, none⟩, .int .i64 A.bit), (⟨Bb, 8, none⟩, .slice pb.ac A.ctrs.length pb.cc)]) (by kernel_rfl) (List.take_append_drop 28 _).symm (by kernel_rfl) (by kernel_rfl) (by kernel_rfl) (by kernel_rfl) (hC) (fun Y Q4 F4 hY hF => ?_)
    simp only [phased, List.flatMap_cons, List.flatMap_nil, List.take_succ_cons, List.take_zero, List.drop_succ_cons, List.drop_zero, sel_true, sel_false, sel_nil, List.map_cons, List.map_nil, List.cons_append, List.nil_append, List.append_nil]
    repeat
      apply wpSeq_read (by first | rfl | (rw [hY]; rfl))
      · intro w2 hS2
        (try simp only [Keeps, Cells] at hS2)
        (try simp only [HasC, Cells] at hS2)
        go_simp
        with_reducible rfl
      simp only [Act.put, List.setIfInBounds_toArray, List.set_cons_zero, List.set_cons_succ]
    apply wpSeq_call (by first | rfl | (rw [hY]; rfl))
    · go_simp
      with_reducible exact ⟨rfl, rfl⟩
    refine (HA.out _).mono ?_
    rintro e v1 ⟨rfl, hc1⟩
    have E1 := below_trans (below_drew w7.heap.size w7) hc1
    refine ⟨_, rfl, Cells.step E1 hC, ?_⟩
    simp only [Act.put, List.setIfInBounds_toArray, List.set_cons_zero, List.set_cons_succ]
    repeat
      apply wpSeq_read (by first | rfl | (rw [hY]; rfl))
      · intro w2 hS2
        (try simp only [Keeps, Cells] at hS2)
        (try simp only [HasC, Cells] at hS2)
        go_simp
        with_reducible rfl
      simp only [Act.put, List.setIfInBounds_toArray, List.set_cons_zero, List.set_cons_succ]
    apply wpSeq_call (by first | rfl | (rw [hY]; rfl))
    · go_simp
      with_reducible exact ⟨rfl, rfl⟩
    refine (HS.out pa pb _ (hMa8.out.step E1) (hMb8.out.step E1)).mono ?_
    rintro e v2 ⟨rfl, hc2⟩
    have E2 := below_trans E1 hc2
    refine ⟨_, rfl, Cells.step E2 hC, ?_⟩
    simp only [Act.put, List.setIfInBounds_toArray, List.set_cons_zero, List.set_cons_succ]
    repeat
      apply wpSeq_read (by first | rfl | (rw [hY]; rfl))
      · intro w2 hS2
        (try simp only [Keeps, Cells] at hS2)
        (try simp only [HasC, Cells] at hS2)
        go_simp
        with_reducible rfl
      simp only [Act.put, List.setIfInBounds_toArray, List.set_cons_zero, List.set_cons_succ]
    apply wpSeq_call (by first | rfl | (rw [hY]; rfl))
    · go_simp
      with_reducible exact ⟨rfl, rfl⟩
    refine (HCk.out _ (HM.out.step (below_trans hB7 E2))).mono ?_
    rintro e v3 ⟨rfl, hc3⟩
    have E3 := below_trans E2 hc3
    refine ⟨_, rfl, Cells.step E3 hC, ?_⟩
    simp only [Act.put, List.setIfInBounds_toArray, List.set_cons_zero, List.set_cons_succ]
    apply wpSeq_call (by first | rfl | (rw [hY]; rfl))
    · go_simp
      with_reducible exact ⟨rfl, rfl⟩
    refine (HRCk.out _ (HM.out.step (below_trans hB7 E3))).mono ?_
    rintro e v4 ⟨rfl, hc4⟩
    have E4 := below_trans E3 hc4
    refine ⟨_, rfl, Cells.step E4 hC, ?_⟩
    simp only [Act.put, List.setIfInBounds_toArray, List.set_cons_zero, List.set_cons_succ]
    repeat
      apply wpSeq_read (by first | rfl | (rw [hY]; rfl))
      · intro w2 hS2
        (try simp only [Keeps, Cells] at hS2)
        (try simp only [HasC, Cells] at hS2)
        go_simp
        with_reducible rfl
      simp only [Act.put, List.setIfInBounds_toArray, List.set_cons_zero, List.set_cons_succ]
    refine wpSeq_done (hF.out _ _ (fun K hK => ?_))
    clear hF hY
    go_wp2_with fail
    refine OnlyK.mk (hK.out _ _ ?_)
    clear hK
    have hB9 := below_trans hB7 E4
    go_wp2_with fail
    go_returns
    exact ⟨by first | rfl | exact ret_bool (by simp), hB9⟩
end Go.Proofs.Ytbfgdaijpcbddaa
