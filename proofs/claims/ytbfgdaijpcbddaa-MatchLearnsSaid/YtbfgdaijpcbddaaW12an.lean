/- The law MatchLearns, walked (layer 12). No condition. -/
import Derived.Test.YtbfgdaijpcbddaaW12am
set_option linter.unusedSimpArgs false
set_option linter.unusedVariables false
set_option linter.unusedSectionVars false
namespace Go.Proofs.Ytbfgdaijpcbddaa
open Go.RowKit

theorem bitR_ctrs (m : S12.M) (b : Int) (hb : S12.Byt m.bytes) : (S12.bitR m b).ctrs.length ≤ 100000 := by
  unfold S12.bitR
  split
  · rename_i hE
    have hck : S12.check m = 0 := by
      cases h : decide (S12.check m = 0) with
      | true => exact of_decide_eq_true h
      | false => unfold S12.bitE at hE; rw [if_pos (of_decide_eq_false h)] at hE; exact hE
    have hbb : b = 0 ∨ b = 1 := by
      unfold S12.bitE at hE
      rw [if_neg (by rw [hck]; simp)] at hE
      split at hE
      · cases hE
      · omega
    have := (((S12.check_iff m).1 hck).bitM hb hbb hE).ctrs
    omega
  · exact Nat.zero_le _

set_option maxRecDepth 100000 in
set_option maxHeartbeats 2000000 in
theorem matchLearns_any (m : S12.M) (p : Pl) (b : Int) (w : World) (h1 : Rd w p.ah (Ints m.heads)) (h2 : Rd w p.ab (Bts m.bytes)) (h3 : Rd w p.ac (Cts m.ctrs)) (h4 : S12.Byt m.bytes) (h5 : m.bytes.length ≤ p.cb) :
    Calls Try.prog 5 #[MV m p, .int .i64 b] w fun e w' => e = .returned (.bool true) ∧ Below w.heap.size w w' := by
  have HA := Lib.hid fun W => awake12_any W
  have HFw := Lib.hid fun W => few12_big m p W
  unfold MV MVals at HFw ⊢
  have B0 := Blk.new w [.int .i64 m.bits, .int .i64 m.least, .slice p.ah m.heads.length p.ch, .slice p.ab m.bytes.length p.cb, .int .i64 m.at_, .int .i64 m.len, .int .i64 m.part, .int .i64 m.bit, .slice p.ac m.ctrs.length p.cc] 27
  have hB0 : Below w.heap.size w (w.alloc (.cells #[.int .i64 m.bits, .int .i64 m.least, .slice p.ah m.heads.length p.ch, .slice p.ab m.bytes.length p.cb, .int .i64 m.at_, .int .i64 m.len, .int .i64 m.part, .int .i64 m.bit, .slice p.ac m.ctrs.length p.cc] 27)) := (Below.refl _ _).alloc (Nat.le_refl _) _
  obtain ⟨w0, hw0⟩ : ∃ w0, (w.alloc (.cells #[.int .i64 m.bits, .int .i64 m.least, .slice p.ah m.heads.length p.ch, .slice p.ab m.bytes.length p.cb, .int .i64 m.at_, .int .i64 m.len, .int .i64 m.part, .int .i64 m.bit, .slice p.ac m.ctrs.length p.cc] 27)) = w0 := ⟨_, rfl⟩
  rw [hw0] at hB0
  have B1 : Blk w0 w.heap.size [.int .i64 m.bits, .int .i64 m.least, .slice p.ah m.heads.length p.ch, .slice p.ab m.bytes.length p.cb, .int .i64 m.at_, .int .i64 m.len, .int .i64 m.part, .int .i64 m.bit, .slice p.ac m.ctrs.length p.cc] 27 := by rw [← hw0]; exact B0
  clear B0
  obtain ⟨x0, x1, x2, x3, x4, x5, x6, x7, x8⟩ := B1.nine
  by_cases hf : S12.few m = false
  · rw [hf] at HFw
    go_enter Try.func5, Try.ntmps5
    go_wp2_with fail
    refine (HFw.out _).mono ?_
    rintro e w1 ⟨rfl, hb1⟩
    have hB1 := below_trans hB0 hb1
    go_wp2_with fail
    refine (HA.out _).mono ?_
    rintro e w2 ⟨rfl, hb2⟩
    have hB2 := below_trans hB1 hb2
    go_wp2_with fail
    go_returns
    exact ⟨rfl, hB2⟩
  have hft : S12.few m = true := by cases e : S12.few m <;> simp_all
  rw [hft] at HFw
  have HM : MIs m p w := by
    unfold S12.few at hft
    simp only [Bool.and_eq_true, decide_eq_true_eq] at hft
    exact ⟨h1, h2, h3, h4, h5, by omega, by omega, by omega⟩
  have hcn := bitR_ctrs m b h4
  clear hf hft h1 h2 h3 h4 h5
  have HM := Lib.hid HM
  have HN := Lib.hid fun W hW => bit12_any m p b W hW
  have HRN := Lib.hid fun W hW => rbit12_any m p b W hW
  obtain ⟨A, hA⟩ : ∃ A, S12.bitR m b = A := ⟨_, rfl⟩
  obtain ⟨E, hE⟩ : ∃ E, S12.bitE m b = E := ⟨_, rfl⟩
  rw [hA, hE] at HN HRN
  rw [hA] at hcn
  have HS := Lib.hid fun q1 q2 W (h1 : MIs A q1 W) (h2 : MIs A q2 W) => rsame12_eq A q1 q2 W h1 h2 hcn
  clear hA hE hcn
  unfold MV MVals at *
  go_enter Try.func5, Try.ntmps5
  go_wp2_with fail
  refine (HFw.out _).mono ?_
  rintro e w1 ⟨rfl, hb1⟩
  have hB1 := below_trans hB0 hb1
  have B2 := B1.step hb1
  clear B1 x0 x1 x2 x3 x4 x5 x6 x7 x8 hw0
  obtain ⟨x0, x1, x2, x3, x4, x5, x6, x7, x8⟩ := B2.nine
  go_wp2_with fail
  refine (HN.out _ (HM.out.step hB1)).mono ?_
  rintro e w2 ⟨pa, rfl, hMa, _, hb2⟩
  have hB2 := below_trans hB1 hb2
  have B3 := B2.step hb2
  clear B2 x0 x1 x2 x3 x4 x5 x6 x7 x8
  obtain ⟨w3, hw3⟩ : ∃ w3, w2.alloc (.cells #[.int .i64 A.bits, .int .i64 A.least, .slice pa.ah A.heads.length pa.ch, .slice pa.ab A.bytes.length pa.cb, .int .i64 A.at_, .int .i64 A.len, .int .i64 A.part, .int .i64 A.bit, .slice pa.ac A.ctrs.length pa.cc] 27) = w3 := ⟨_, rfl⟩
  have hb3 : Below w2.heap.size w2 w3 := by rw [← hw3]; exact (Below.refl _ _).alloc (Nat.le_refl _) _
  obtain ⟨Ab, hAb⟩ : ∃ Ab, w2.heap.size = Ab := ⟨_, rfl⟩
  have A3 : Blk w3 Ab [.int .i64 A.bits, .int .i64 A.least, .slice pa.ah A.heads.length pa.ch, .slice pa.ab A.bytes.length pa.cb, .int .i64 A.at_, .int .i64 A.len, .int .i64 A.part, .int .i64 A.bit, .slice pa.ac A.ctrs.length pa.cc] 27 := by rw [← hw3, ← hAb]; exact Blk.new w2 _ _
  have hB3 := below_trans hB2 hb3
  have B4 := B3.step hb3
  have hMa3 := hMa.step hb3
  clear B3 hMa
  obtain ⟨x0, x1, x2, x3, x4, x5, x6, x7, x8⟩ := B4.nine
  go_wp2_with fail
  refine (HRN.out _ (HM.out.step hB3)).mono ?_
  rintro e w4 ⟨pb, rfl, hMb, hb4⟩
  have hB4 := below_trans hB3 hb4
  have A4 := A3.step hb4
  have hMa4 := hMa3.step hb4
  clear A3 B4 hw3 hMa3 x0 x1 x2 x3 x4 x5 x6 x7 x8
  obtain ⟨w5, hw5⟩ : ∃ w5, w4.alloc (.cells #[.int .i64 A.bits, .int .i64 A.least, .slice pb.ah A.heads.length pb.ch, .slice pb.ab A.bytes.length pb.cb, .int .i64 A.at_, .int .i64 A.len, .int .i64 A.part, .int .i64 A.bit, .slice pb.ac A.ctrs.length pb.cc] 27) = w5 := ⟨_, rfl⟩
  have hb5 : Below w4.heap.size w4 w5 := by rw [← hw5]; exact (Below.refl _ _).alloc (Nat.le_refl _) _
  obtain ⟨Bb, hBb⟩ : ∃ Bb, w4.heap.size = Bb := ⟨_, rfl⟩
  have C5 : Blk w5 Bb [.int .i64 A.bits, .int .i64 A.least, .slice pb.ah A.heads.length pb.ch, .slice pb.ab A.bytes.length pb.cb, .int .i64 A.at_, .int .i64 A.len, .int .i64 A.part, .int .i64 A.bit, .slice pb.ac A.ctrs.length pb.cc] 27 := by rw [← hw5, ← hBb]; exact Blk.new w4 _ _
  have hB5 := below_trans hB4 hb5
  have A5 := A4.step hb5
  have hMa5 := hMa4.step hb5
  have hMb5 := hMb.step hb5
  clear A4 hMa4 hMb
  go_wp2_with fail
  refine (HA.out _).mono ?_
  rintro e w6 ⟨rfl, hb6⟩
  have hB6 := below_trans hB5 hb6
  have A6 := A5.step hb6
  have C6 := C5.step hb6
  have hMa6 := hMa5.step hb6
  have hMb6 := hMb5.step hb6
  clear A5 C5 hMa5 hMb5 hw5
  obtain ⟨y0, y1, y2, y3, y4, y5, y6, y7, y8⟩ := A6.nine
  obtain ⟨z0, z1, z2, z3, z4, z5, z6, z7, z8⟩ := C6.nine
  go_wp2_with fail
  refine (HS.out pa pb _ hMa6 hMb6).mono ?_
  rintro e w7 ⟨rfl, hb7⟩
  have hB7 := below_trans hB6 hb7
  go_wp2_with fail
  go_returns
  exact ⟨by first | rfl | exact ret_bool (by simp), hB7⟩
end Go.Proofs.Ytbfgdaijpcbddaa
