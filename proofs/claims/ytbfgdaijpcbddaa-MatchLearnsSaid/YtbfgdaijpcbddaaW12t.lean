/- Bit (layer 12), whatever comes in. Longest (layer 12). No condition. -/
import Derived.Test.YtbfgdaijpcbddaaW12q
import Derived.Test.YtbfgdaijpcbddaaW12r
import Derived.Test.YtbfgdaijpcbddaaW12i
set_option linter.unusedSimpArgs false
set_option linter.unusedVariables false
set_option linter.unusedSectionVars false
namespace Go.Proofs.Ytbfgdaijpcbddaa
open Go.RowKit

def S12.bitR (m : S12.M) (b : Int) : S12.M := if S12.bitE m b = 0 then S12.bitM m b else S12.zero
def ZV : Value := .agg #[.int .i64 0, .int .i64 0, .slice none 0 0, .slice none 0 0, .int .i64 0, .int .i64 0, .int .i64 0, .int .i64 0, .slice none 0 0]

set_option maxRecDepth 100000 in
set_option maxHeartbeats 4000000 in
theorem bit12_err (m : S12.M) (p : Pl) (b : Int) (w : World) (hM : MIs m p w) (hE : S12.bitE m b ≠ 0) :
    Calls Try.prog 15 #[MV m p, .int .i64 b] w fun e w' => e = .returned (.tuple #[ZV, .int .i64 (S12.bitE m b)]) ∧ Below w.heap.size w w' := by
  have HCk := Lib.hid fun W hW => check12_any m p W hW
  have HW := Lib.hid fun W => within12_any b 0 1 W
  obtain ⟨C, hC⟩ : ∃ C, S12.check m = C := ⟨_, rfl⟩
  have hEE : S12.bitE m b = if C ≠ 0 then C else if ¬ (0 ≤ b ∧ b ≤ 1) then 1 else if 128 ≤ m.part ∧ 65536 ≤ m.bytes.length then 11 else 0 := by unfold S12.bitE; rw [hC]
  rw [hC] at HCk
  have hfew : C = 0 → m.bytes.length ≤ 65536 := fun h => ((S12.check_iff m).1 (hC.trans h)).few
  obtain ⟨E, hEq⟩ : ∃ E, S12.bitE m b = E := ⟨_, rfl⟩
  rw [hEq] at hEE hE ⊢
  have HM := Lib.hid hM
  have hB0 : Below w.heap.size w ((w.alloc (.cells (MVals m p).toArray 27)).alloc (.cells #[.int .i64 0, .int .i64 0, .slice none 0 0, .slice none 0 0, .int .i64 0, .int .i64 0, .int .i64 0, .int .i64 0, .slice none 0 0] 27)) := by go_grown
  have A0 : Blk ((w.alloc (.cells (MVals m p).toArray 27)).alloc (.cells #[.int .i64 0, .int .i64 0, .slice none 0 0, .slice none 0 0, .int .i64 0, .int .i64 0, .int .i64 0, .int .i64 0, .slice none 0 0] 27)) w.heap.size (MVals m p) 27 := (Blk.new w _ _).alloc _
  have R0 : Blk ((w.alloc (.cells (MVals m p).toArray 27)).alloc (.cells #[.int .i64 0, .int .i64 0, .slice none 0 0, .slice none 0 0, .int .i64 0, .int .i64 0, .int .i64 0, .int .i64 0, .slice none 0 0] 27)) (w.heap.size + 1) [.int .i64 0, .int .i64 0, .slice none 0 0, .slice none 0 0, .int .i64 0, .int .i64 0, .int .i64 0, .int .i64 0, .slice none 0 0] 27 := by
    have h := Blk.new (w.alloc (.cells (MVals m p).toArray 27)) [.int .i64 0, .int .i64 0, .slice none 0 0, .slice none 0 0, .int .i64 0, .int .i64 0, .int .i64 0, .int .i64 0, .slice none 0 0] 27
    simpa using h
  clear hM hEq hC
  have hfin : ∀ (X : World), Below w.heap.size w X → Below w.heap.size w _ := fun X h => below_put9 h (Nat.le_succ _) (.int .i64 0) (.int .i64 0) (.slice none 0 0) (.slice none 0 0) (.int .i64 0) (.int .i64 0) (.int .i64 0) (.int .i64 0) (.slice none 0 0)
  have Hfin := Lib.hid hfin
  clear hfin
  unfold MV at HCk
  unfold MVals at HCk A0 R0 hB0
  show Calls Try.prog 15 #[.agg #[.int .i64 m.bits, .int .i64 m.least, .slice p.ah m.heads.length p.ch, .slice p.ab m.bytes.length p.cb, .int .i64 m.at_, .int .i64 m.len, .int .i64 m.part, .int .i64 m.bit, .slice p.ac m.ctrs.length p.cc], .int .i64 b] w _
  go_enter Try.func15, Try.ntmps15
  obtain ⟨x0, x1, x2, x3, x4, x5, x6, x7, x8⟩ := A0.nine
  obtain ⟨w0, hw0⟩ : ∃ w0, ((w.alloc (.cells #[.int .i64 m.bits, .int .i64 m.least, .slice p.ah m.heads.length p.ch, .slice p.ab m.bytes.length p.cb, .int .i64 m.at_, .int .i64 m.len, .int .i64 m.part, .int .i64 m.bit, .slice p.ac m.ctrs.length p.cc] 27)).alloc (.cells #[.int .i64 0, .int .i64 0, .slice none 0 0, .slice none 0 0, .int .i64 0, .int .i64 0, .int .i64 0, .int .i64 0, .slice none 0 0] 27)) = w0 := ⟨_, rfl⟩
  rw [hw0] at hB0 A0 R0 x0 x1 x2 x3 x4 x5 x6 x7 x8
  go_wp2_with fail
  refine (HCk.out _ (HM.out.step hB0)).mono ?_
  rintro e w1 ⟨rfl, hb1⟩
  have hB1 := below_trans hB0 hb1
  have R1 := R0.step hb1
  have A1 := A0.step hb1
  clear x0 x1 x2 x3 x4 x5 x6 x7 x8 A0 R0 hw0
  by_cases hC0 : C ≠ 0
  · rw [if_pos hC0] at hEE
    subst hEE
    have eC : (E != 0) = true := by simp [hC0]
    obtain ⟨z0, z1, z2, z3, z4, z5, z6, z7, z8⟩ := R1.nine
    have f0 := R1.free 0
    have f1 := R1.free 1
    have f2 := R1.free 2
    have f3 := R1.free 3
    have f4 := R1.free 4
    have f5 := R1.free 5
    have f6 := R1.free 6
    have f7 := R1.free 7
    have f8 := R1.free 8
    obtain ⟨y0, y1, y2, y3, y4, y5, y6, y7, y8⟩ := (R1.put9 (.int .i64 0) (.int .i64 0) (.slice none 0 0) (.slice none 0 0) (.int .i64 0) (.int .i64 0) (.int .i64 0) (.int .i64 0) (.slice none 0 0)).nine
    go_wp2_with (exact bodyPost_ret (v := .tuple #[ZV, .int .i64 E]) (by simp [results, Try.results15, go_sem, ZV, y0, y1, y2, y3, y4, y5, y6, y7, y8]) rfl ⟨rfl, Hfin.out _ hB1⟩)
  replace hC0 := Classical.not_not.1 hC0
  subst hC0
  rw [if_neg (by simp)] at hEE
  go_wp2_with fail
  refine (HW.out _).mono ?_
  rintro e w2 ⟨rfl, hb2⟩
  have hB2 := below_trans hB1 hb2
  have R2 := R1.step hb2
  have A2 := A1.step hb2
  clear R1 A1
  obtain ⟨z0, z1, z2, z3, z4, z5, z6, z7, z8⟩ := R2.nine
  have f0 := R2.free 0
  have f1 := R2.free 1
  have f2 := R2.free 2
  have f3 := R2.free 3
  have f4 := R2.free 4
  have f5 := R2.free 5
  have f6 := R2.free 6
  have f7 := R2.free 7
  have f8 := R2.free 8
  obtain ⟨y0, y1, y2, y3, y4, y5, y6, y7, y8⟩ := (R2.put9 (.int .i64 0) (.int .i64 0) (.slice none 0 0) (.slice none 0 0) (.int .i64 0) (.int .i64 0) (.int .i64 0) (.int .i64 0) (.slice none 0 0)).nine
  by_cases hb : ¬ (0 ≤ b ∧ b ≤ 1)
  · rw [if_pos hb] at hEE
    subst hEE
    rw [decide_eq_false hb]
    go_wp2_with (exact bodyPost_ret (v := .tuple #[ZV, .int .i64 1]) (by simp [results, Try.results15, go_sem, ZV, y0, y1, y2, y3, y4, y5, y6, y7, y8]) rfl ⟨rfl, Hfin.out _ hB2⟩)
  replace hb := Classical.not_not.1 hb
  rw [if_neg (by omega)] at hEE
  rw [decide_eq_true hb]
  by_cases hf : 128 ≤ m.part ∧ 65536 ≤ m.bytes.length
  · rw [if_pos hf] at hEE
    subst hEE
    have d1 : decide (128 ≤ m.part) = true := decide_eq_true hf.1
    have d2 : decide (65536 ≤ (m.bytes.length : Int)) = true := decide_eq_true (by omega)
    have x3 : w2.cell? ⟨w.heap.size, 3, none⟩ = some (.slice p.ab m.bytes.length p.cb) := A2.cell 3
    have x6 : w2.cell? ⟨w.heap.size, 6, none⟩ = some (.int .i64 m.part) := A2.cell 6
    have hbN : m.bytes.length < 9223372036854775808 := by have := hfew trivial; omega
    clear hf hfew hb
    go_wp2_with (exact bodyPost_ret (v := .tuple #[ZV, .int .i64 11]) (by simp [results, Try.results15, go_sem, ZV, y0, y1, y2, y3, y4, y5, y6, y7, y8]) rfl ⟨rfl, Hfin.out _ hB2⟩)
  · rw [if_neg hf] at hEE
    exact absurd hEE hE

theorem bit12_any (m : S12.M) (p : Pl) (b : Int) (w : World) (hM : MIs m p w) :
    Calls Try.prog 15 #[MV m p, .int .i64 b] w fun e w' => ∃ p', e = .returned (.tuple #[MV (S12.bitR m b) p', .int .i64 (S12.bitE m b)]) ∧ MIs (S12.bitR m b) p' w' ∧ Far w.heap.size p' ∧ Below w.heap.size w w' := by
  unfold S12.bitR
  by_cases hE : S12.bitE m b = 0
  · rw [if_pos hE, hE]
    by_cases hf : 128 ≤ m.part
    · exact bit12_full m p b w hM hE hf
    · exact bit12_part m p b w hM hE hf
  · rw [if_neg hE]
    refine (bit12_err m p b w hM hE).mono ?_
    rintro e w' ⟨rfl, hb⟩
    exact ⟨_, rfl, MIs.zero _, Far.none _, hb⟩
end Go.Proofs.Ytbfgdaijpcbddaa

namespace Go.Proofs.Ytbfgdaijpcbddaa
open Go.RowKit

theorem S12.longTo_ge (b : List Int) (least : Int) : ∀ p, (S12.longTo b least p).1 ≤ p
  | 0 => Nat.le_refl _
  | p + 1 => by
    unfold S12.longTo
    split
    · exact Nat.zero_le _
    · split
      · simp only; omega
      · exact Nat.le_trans (S12.longTo_ge b least p) (by omega)
theorem S12.longTo_le (b : List Int) (least : Int) : ∀ p, (S12.longTo b least p).2 ≤ 255
  | 0 => Nat.zero_le _
  | p + 1 => by
    unfold S12.longTo
    split
    · exact Nat.zero_le _
    · split
      · have := S12.rep_le b p; simp only; omega
      · exact S12.longTo_le b least p

set_option maxRecDepth 100000 in
set_option maxHeartbeats 2000000 in
theorem longest12_any (a : Option Addr) (cap : Nat) (xs : List Int) (least : Int) (w : World) (hl63 : xs.length ≤ 4611686018427387904) (hcap : xs.length ≤ cap) (hrd : Rd w a (Bts xs)) :
    Calls Try.prog 24 #[.slice a xs.length cap, .int .i64 least] w fun e w' => e = .returned (.tuple #[.int .i64 ((S12.longest xs least).1 : Int), .int .i64 ((S12.longest xs least).2 : Int)]) ∧ Below w.heap.size w w' := by
  by_cases h1 : least < 1
  · have e1 : S12.longest xs least = (0, 0) := by unfold S12.longest; rw [if_pos (.inl h1)]
    have d1 : decide (least < 1) = true := decide_eq_true h1
    rw [e1]
    go_enter Try.func24, Try.ntmps24
    go_wp2_with fail
    go_returns
    exact ⟨rfl, Below.refl _ _⟩
  have d1 : decide (least < 1) = false := decide_eq_false h1
  by_cases h2 : 65536 < xs.length
  · have e1 : S12.longest xs least = (0, 0) := by unfold S12.longest; rw [if_pos (.inr h2)]
    have d2 : decide (65536 < (xs.length : Int)) = true := decide_eq_true (by omega)
    rw [e1]
    clear h2
    go_enter Try.func24, Try.ntmps24
    go_wp2_with fail
    go_returns
    exact ⟨rfl, Below.refl _ _⟩
  have d2 : decide (65536 < (xs.length : Int)) = false := decide_eq_false (by omega)
  have e1 : S12.longest xs least = S12.longTo xs least xs.length := by unfold S12.longest; rw [if_neg (by omega)]
  rw [e1]
  have HR := Lib.hid fun W (q : Nat) (hq : q ≤ xs.length) (hne : 0 < xs.length) (hrd : Rd W a (Bts xs)) => (show Calls Try.prog 53 #[.slice a xs.length cap, .int .i64 (q : Int)] W fun e w' => e = .returned (.int .i64 (S12.rep xs q : Int)) ∧ Below W.heap.size W w' by
    obtain ⟨g, o, rfl, _⟩ := Bts_at hrd (i := 0) hne
    exact repetition_any g o cap xs q hq (by omega) hcap hne W hrd)
  obtain ⟨R, hR⟩ : ∃ R, S12.longTo xs least xs.length = R := ⟨_, rfl⟩
  rw [hR]
  have HRR := Lib.hid hR
  have Hrd := Lib.hid hrd
  clear hR e1 hrd
  go_enter Try.func24, Try.ntmps24
  go_wp2_with fail
  go_loopw [6, 7, 8] (fun at_ most p wr => ∃ k : Nat, k ≤ max xs.length 1 ∧ 1 ≤ k ∧ p = .int .i64 (k : Int) ∧ at_ = .int .i64 ((S12.longTo xs least k).1 : Int) ∧ most = .int .i64 ((S12.longTo xs least k).2 : Int) ∧ Below w.heap.size w wr)
    (fun _ _ p _ => xs.length - (intOf p).toNat)
  case atStart => exact ⟨1, by omega, by omega, rfl, rfl, rfl, Below.refl _ _⟩
  case round =>
    obtain ⟨k, hk, hk1, rfl, rfl, rfl, hB⟩ := hrel
    by_cases hlt : k < xs.length
    · have HT := Lib.hid (show S12.longTo xs least (k + 1) = if (S12.longTo xs least k).2 ≤ S12.rep xs k ∧ least ≤ S12.rep xs k then (k, S12.rep xs k) else S12.longTo xs least k by rw [S12.longTo]; rw [if_neg (by omega)])
      have hl := S12.longTo_le xs least k
      have hg := S12.longTo_ge xs least k
      obtain ⟨⟨q1, q2⟩, hq⟩ : ∃ q, S12.longTo xs least k = q := ⟨_, rfl⟩
      have HC := Lib.hid (HR.out wr k (by omega) (by omega) (Hrd.out.step hB))
      obtain ⟨rp, hrp⟩ : ∃ rp, S12.rep xs k = rp := ⟨_, rfl⟩
      rw [hrp] at HC HT
      rw [hq] at HT hl hg ⊢
      simp only at HT hl hg ⊢
      clear hq hrp
      have dk : decide ((k : Int) < (xs.length : Int)) = true := decide_eq_true (by omega)
      go_wp2_with fail
      refine HC.out.mono ?_
      rintro e w1 ⟨rfl, hb1⟩
      have hB1 := below_trans hB hb1
      have hk9 : k < 70000 := by omega
      have hT := HT.out
      by_cases hc : q2 ≤ rp ∧ least ≤ rp
      · rw [if_pos hc] at hT
        have HT2 := Lib.hid hT
        have dm : decide (max (q2 : Int) least ≤ (rp : Int)) = true := decide_eq_true (by omega)
        clear hT HT hc dk
        go_wp2_with fail
        go_roundw
        case rel => exact ⟨k + 1, by omega, by omega, by go_num, by rw [HT2.out], by rw [HT2.out], hB1⟩
        case measure => simp [intOf]; omega
      · rw [if_neg hc] at hT
        have HT2 := Lib.hid hT
        have dm : decide (max (q2 : Int) least ≤ (rp : Int)) = false := decide_eq_false (by omega)
        clear hT HT hc dk
        go_wp2_with fail
        go_roundw
        case rel => exact ⟨k + 1, by omega, by omega, by go_num, by rw [HT2.out], by rw [HT2.out], hB1⟩
        case measure => simp [intOf]; omega
    · have e : S12.longTo xs least k = R := by
        rw [← HRR.out]
        rcases Nat.eq_zero_or_pos xs.length with h0 | h0
        · rw [h0, show k = 1 by omega]; rfl
        · rw [show k = xs.length by omega]
      rw [e]
      have dk : decide ((k : Int) < (xs.length : Int)) = false := decide_eq_false (by omega)
      clear e hk
      go_wp2_with fail
      go_returns
      exact ⟨rfl, hB⟩
end Go.Proofs.Ytbfgdaijpcbddaa
