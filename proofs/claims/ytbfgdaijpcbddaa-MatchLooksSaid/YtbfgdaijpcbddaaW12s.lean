/- Bit (layer 12), whatever comes in. No condition. -/
import Derived.Test.YtbfgdaijpcbddaaW12q
import Derived.Test.YtbfgdaijpcbddaaW12r
set_option linter.unusedSimpArgs false
set_option linter.unusedVariables false
set_option linter.unusedSectionVars false
namespace Go.Proofs.Ytbfgdaijpcbddaa
open Go.RowKit

def S12.bitR (m : S12.M) (b : Int) : S12.M := if S12.bitE m b = 0 then S12.bitM m b else S12.zero
def ZV : Value := .agg #[.int .i64 0, .int .i64 0, .slice none 0 0, .slice none 0 0, .int .i64 0, .int .i64 0, .int .i64 0, .int .i64 0, .slice none 0 0]

set_option maxRecDepth 100000 in
set_option maxHeartbeats 4000000 in
theorem bit12_err (m : S12.M) (p : Pl) (b : Int) (w : World) (hM : MIs m p w) (hE : S12.bitE m b ≠ 0) :
    Calls Try.prog 15 #[MV m p, .int .i64 b] w fun e w' => e = .returned (.tuple #[ZV, .int .i64 (S12.bitE m b)]) ∧ Below w.heap.size w w' := by
  have HCk := Lib.hid fun W hW => check12_any m p W hW
  have HW := Lib.hid fun W => within12_any b 0 1 W
  obtain ⟨C, hC⟩ : ∃ C, S12.check m = C := ⟨_, rfl⟩
  have hEE : S12.bitE m b = if C ≠ 0 then C else if ¬ (0 ≤ b ∧ b ≤ 1) then 1 else if 128 ≤ m.part ∧ 65536 ≤ m.bytes.length then 11 else 0 := by unfold S12.bitE; rw [hC]
  rw [hC] at HCk
  have hfew : C = 0 → m.bytes.length ≤ 65536 := fun h => ((S12.check_iff m).1 (hC.trans h)).few
  obtain ⟨E, hEq⟩ : ∃ E, S12.bitE m b = E := ⟨_, rfl⟩
  rw [hEq] at hEE hE ⊢
  have HM := Lib.hid hM
  have hB0 : Below w.heap.size w ((w.alloc (.cells (MVals m p).toArray 27)).alloc (.cells #[.int .i64 0, .int .i64 0, .slice none 0 0, .slice none 0 0, .int .i64 0, .int .i64 0, .int .i64 0, .int .i64 0, .slice none 0 0] 27)) := by go_grown
  have A0 : Blk ((w.alloc (.cells (MVals m p).toArray 27)).alloc (.cells #[.int .i64 0, .int .i64 0, .slice none 0 0, .slice none 0 0, .int .i64 0, .int .i64 0, .int .i64 0, .int .i64 0, .slice none 0 0] 27)) w.heap.size (MVals m p) 27 := (Blk.new w _ _).alloc _
  have R0 : Blk ((w.alloc (.cells (MVals m p).toArray 27)).alloc (.cells #[.int .i64 0, .int .i64 0, .slice none 0 0, .slice none 0 0, .int .i64 0, .int .i64 0, .int .i64 0, .int .i64 0, .slice none 0 0] 27)) (w.heap.size + 1) [.int .i64 0, .int .i64 0, .slice none 0 0, .slice none 0 0, .int .i64 0, .int .i64 0, .int .i64 0, .int .i64 0, .slice none 0 0] 27 := by
    have h := Blk.new (w.alloc (.cells (MVals m p).toArray 27)) [.int .i64 0, .int .i64 0, .slice none 0 0, .slice none 0 0, .int .i64 0, .int .i64 0, .int .i64 0, .int .i64 0, .slice none 0 0] 27
    simpa using h
  clear hM hEq hC
  have hfin : ∀ (X : World), Below w.heap.size w X → Below w.heap.size w _ := fun X h => below_put9 h (Nat.le_succ _) (.int .i64 0) (.int .i64 0) (.slice none 0 0) (.slice none 0 0) (.int .i64 0) (.int .i64 0) (.int .i64 0) (.int .i64 0) (.slice none 0 0)
  have Hfin := Lib.hid hfin
  clear hfin
  unfold MV at HCk
  unfold MVals at HCk A0 R0 hB0
  show Calls Try.prog 15 #[.agg #[.int .i64 m.bits, .int .i64 m.least, .slice p.ah m.heads.length p.ch, .slice p.ab m.bytes.length p.cb, .int .i64 m.at_, .int .i64 m.len, .int .i64 m.part, .int .i64 m.bit, .slice p.ac m.ctrs.length p.cc], .int .i64 b] w _
  go_enter Try.func15, Try.ntmps15
  obtain ⟨x0, x1, x2, x3, x4, x5, x6, x7, x8⟩ := A0.nine
  obtain ⟨w0, hw0⟩ : ∃ w0, ((w.alloc (.cells #[.int .i64 m.bits, .int .i64 m.least, .slice p.ah m.heads.length p.ch, .slice p.ab m.bytes.length p.cb, .int .i64 m.at_, .int .i64 m.len, .int .i64 m.part, .int .i64 m.bit, .slice p.ac m.ctrs.length p.cc] 27)).alloc (.cells #[.int .i64 0, .int .i64 0, .slice none 0 0, .slice none 0 0, .int .i64 0, .int .i64 0, .int .i64 0, .int .i64 0, .slice none 0 0] 27)) = w0 := ⟨_, rfl⟩
  rw [hw0] at hB0 A0 R0 x0 x1 x2 x3 x4 x5 x6 x7 x8
  go_wp2_with fail
  refine (HCk.out _ (HM.out.step hB0)).mono ?_
  rintro e w1 ⟨rfl, hb1⟩
  have hB1 := below_trans hB0 hb1
  have R1 := R0.step hb1
  have A1 := A0.step hb1
  clear x0 x1 x2 x3 x4 x5 x6 x7 x8 A0 R0 hw0
  by_cases hC0 : C ≠ 0
  · rw [if_pos hC0] at hEE
    subst hEE
    have eC : (E != 0) = true := by simp [hC0]
    obtain ⟨z0, z1, z2, z3, z4, z5, z6, z7, z8⟩ := R1.nine
    have f0 := R1.free 0
    have f1 := R1.free 1
    have f2 := R1.free 2
    have f3 := R1.free 3
    have f4 := R1.free 4
    have f5 := R1.free 5
    have f6 := R1.free 6
    have f7 := R1.free 7
    have f8 := R1.free 8
    obtain ⟨y0, y1, y2, y3, y4, y5, y6, y7, y8⟩ := (R1.put9 (.int .i64 0) (.int .i64 0) (.slice none 0 0) (.slice none 0 0) (.int .i64 0) (.int .i64 0) (.int .i64 0) (.int .i64 0) (.slice none 0 0)).nine
    go_wp2_with (exact bodyPost_ret (v := .tuple #[ZV, .int .i64 E]) (by simp [results, Try.results15, go_sem, ZV, y0, y1, y2, y3, y4, y5, y6, y7, y8]) rfl ⟨rfl, Hfin.out _ hB1⟩)
  replace hC0 := Classical.not_not.1 hC0
  subst hC0
  rw [if_neg (by simp)] at hEE
  go_wp2_with fail
  refine (HW.out _).mono ?_
  rintro e w2 ⟨rfl, hb2⟩
  have hB2 := below_trans hB1 hb2
  have R2 := R1.step hb2
  have A2 := A1.step hb2
  clear R1 A1
  obtain ⟨z0, z1, z2, z3, z4, z5, z6, z7, z8⟩ := R2.nine
  have f0 := R2.free 0
  have f1 := R2.free 1
  have f2 := R2.free 2
  have f3 := R2.free 3
  have f4 := R2.free 4
  have f5 := R2.free 5
  have f6 := R2.free 6
  have f7 := R2.free 7
  have f8 := R2.free 8
  obtain ⟨y0, y1, y2, y3, y4, y5, y6, y7, y8⟩ := (R2.put9 (.int .i64 0) (.int .i64 0) (.slice none 0 0) (.slice none 0 0) (.int .i64 0) (.int .i64 0) (.int .i64 0) (.int .i64 0) (.slice none 0 0)).nine
  by_cases hb : ¬ (0 ≤ b ∧ b ≤ 1)
  · rw [if_pos hb] at hEE
    subst hEE
    rw [decide_eq_false hb]
    go_wp2_with (exact bodyPost_ret (v := .tuple #[ZV, .int .i64 1]) (by simp [results, Try.results15, go_sem, ZV, y0, y1, y2, y3, y4, y5, y6, y7, y8]) rfl ⟨rfl, Hfin.out _ hB2⟩)
  replace hb := Classical.not_not.1 hb
  rw [if_neg (by omega)] at hEE
  rw [decide_eq_true hb]
  by_cases hf : 128 ≤ m.part ∧ 65536 ≤ m.bytes.length
  · rw [if_pos hf] at hEE
    subst hEE
    have d1 : decide (128 ≤ m.part) = true := decide_eq_true hf.1
    have d2 : decide (65536 ≤ (m.bytes.length : Int)) = true := decide_eq_true (by omega)
    have x3 : w2.cell? ⟨w.heap.size, 3, none⟩ = some (.slice p.ab m.bytes.length p.cb) := A2.cell 3
    have x6 : w2.cell? ⟨w.heap.size, 6, none⟩ = some (.int .i64 m.part) := A2.cell 6
    have hbN : m.bytes.length < 9223372036854775808 := by have := hfew trivial; omega
    clear hf hfew hb
    go_wp2_with (exact bodyPost_ret (v := .tuple #[ZV, .int .i64 11]) (by simp [results, Try.results15, go_sem, ZV, y0, y1, y2, y3, y4, y5, y6, y7, y8]) rfl ⟨rfl, Hfin.out _ hB2⟩)
  · rw [if_neg hf] at hEE
    exact absurd hEE hE

theorem bit12_any (m : S12.M) (p : Pl) (b : Int) (w : World) (hM : MIs m p w) :
    Calls Try.prog 15 #[MV m p, .int .i64 b] w fun e w' => ∃ p', e = .returned (.tuple #[MV (S12.bitR m b) p', .int .i64 (S12.bitE m b)]) ∧ MIs (S12.bitR m b) p' w' ∧ Far w.heap.size p' ∧ Below w.heap.size w w' := by
  unfold S12.bitR
  by_cases hE : S12.bitE m b = 0
  · rw [if_pos hE, hE]
    by_cases hf : 128 ≤ m.part
    · exact bit12_full m p b w hM hE hf
    · exact bit12_part m p b w hM hE hf
  · rw [if_neg hE]
    refine (bit12_err m p b w hM hE).mono ?_
    rintro e w' ⟨rfl, hb⟩
    exact ⟨_, rfl, MIs.zero _, Far.none _, hb⟩
end Go.Proofs.Ytbfgdaijpcbddaa
