/- What a match says of the bytes, in plain lists. No program, no condition. -/
import Derived.Test.YtbfgdaijpcbddaaSpec12d
set_option linter.unusedSimpArgs false
set_option linter.unusedVariables false
set_option linter.unusedSectionVars false
namespace Go.Proofs.Ytbfgdaijpcbddaa.S12

theorem rep_slice {b : List Int} {p n : Nat} (hn : n ≤ rep b p) (hp : p ≤ b.length) : (b.drop (p - n)).take n = b.drop (b.length - n) := by
  have hr := rep_le b p
  apply List.ext_getElem?
  intro i
  rw [List.getElem?_take, List.getElem?_drop, List.getElem?_drop]
  by_cases hi : i < n
  · rw [if_pos hi]
    have h := rep_eq b p (n - 1 - i) (by omega)
    unfold eqAt at h
    simp only [beq_iff_eq] at h
    rw [getD_in _ _ (by omega), getD_in _ _ (by omega)] at h
    rw [List.getElem?_eq_getElem (by omega), List.getElem?_eq_getElem (by omega)]
    congr 1
    have e1 : p - 1 - (n - 1 - i) = p - n + i := by omega
    have e2 : b.length - 1 - (n - 1 - i) = b.length - n + i := by omega
    simp only [e1, e2] at h
    exact h
  · rw [if_neg hi, List.getElem?_eq_none (by omega)]
theorem longTo_all (b : List Int) (least : Int) : ∀ k p, 1 ≤ p → p < k → least ≤ rep b p → rep b p ≤ (longTo b least k).2
  | 0, p, _, h, _ => by omega
  | k + 1, p, h1, h2, h3 => by
    unfold longTo
    rw [if_neg (by omega)]
    by_cases hk : p = k
    · subst hk
      split
      · exact Nat.le_refl _
      · rename_i h; omega
    · have := longTo_all b least k p h1 (by omega) h3
      split
      · simp only; omega
      · exact this
theorem longest_ge {b : List Int} {least : Int} (hl : 1 ≤ least) (hb : b.length ≤ 65536) {p : Nat} (h1 : 1 ≤ p) (h2 : p < b.length) (h3 : least ≤ rep b p) : rep b p ≤ (longest b least).2 := by
  unfold longest
  rw [if_neg (by omega)]
  exact longTo_all b least _ p h1 h2 h3

/-- What MatchRepeats asks. -/
theorem Fed.repeats {nb least : Int} {bs : List Int} {m : M} (h : Fed nb least bs m) (h0 : m.len ≠ 0) :
    ∃ l p : Nat, m.len = l ∧ m.at_ = p ∧ least ≤ l ∧ l ≤ p ∧ p < bs.length ∧ (bs.drop (p - l)).take l = bs.drop (bs.length - l) ∧ l ≤ (longest bs least).2 ∧ 1 ≤ l := by
  have hM := h.wf.Mat h0
  have h1 := hM.len
  have h2 := hM.at_
  have h3 := hM.rep
  rw [h.bytes] at h2 h3
  have hl := h.long
  have hle := h.wf.least
  rw [h.least] at hl hle
  have hf := h.wf.few
  rw [h.bytes] at hf
  obtain ⟨l, hll⟩ : ∃ l : Nat, m.len = l := ⟨m.len.toNat, by omega⟩
  obtain ⟨p, hpp⟩ : ∃ p : Nat, m.at_ = p := ⟨m.at_.toNat, by omega⟩
  rw [hll] at h1 h2 h3 hl h0
  rw [hpp, Int.toNat_natCast] at h3
  rw [hpp] at h2
  have hg := longest_ge (b := bs) (least := least) hle.1 hf (p := p) (by omega) (by omega) (by omega)
  exact ⟨l, p, hll, hpp, by omega, by omega, by omega, rep_slice (by omega) (by omega), by omega, by omega⟩
end Go.Proofs.Ytbfgdaijpcbddaa.S12
