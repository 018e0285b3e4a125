/- A match model that is fed bit by bit. No program, no condition. -/
import Derived.Test.YtbfgdaijpcbddaaSpec12f
set_option linter.unusedSimpArgs false
set_option linter.unusedVariables false
set_option linter.unusedSectionVars false
namespace Go.Proofs.Ytbfgdaijpcbddaa.S12

/-- The i-th bit of some bytes. -/
def bitAt (xs : List Int) (i : Nat) : Nat := (xs.getD (i / 8) 0).toNat / 2 ^ (7 - i % 8) % 2
/-- The model behind the first i bits. -/
def bitsM (m : M) (xs : List Int) : Nat → M
  | 0 => m
  | i + 1 => bitM (bitsM m xs i) (bitAt xs i : Int)
structure Bits (nb least : Int) (xs : List Int) (i : Nat) (m : M) : Prop where
  mid : i < 8 * xs.length → Mid nb least (xs.take (i / 8)) (xs.getD (i / 8) 0).toNat (8 - i % 8) m
  fin : WF m
theorem Bits.start {nb least : Int} (h1 : 1 ≤ nb ∧ nb ≤ 16) (h2 : 1 ≤ least ∧ least ≤ 32) {xs : List Int} (hX : Byt xs) : Bits nb least xs 0 (start nb least) := by
  have h := start_wf h1 h2
  exact ⟨fun _ => h.mid (hX.at 0), h.wf⟩
theorem Bits.next {nb least : Int} {xs : List Int} {i : Nat} {m : M} (h : Bits nb least xs i m) (hX : Byt xs) (hl : xs.length ≤ 60000) (hi : i < 8 * xs.length) : Bits nb least xs (i + 1) (bitM m (bitAt xs i : Int)) := by
  have hm := h.mid hi
  have hx := hX.at (i / 8)
  have hB : Byt (xs.take (i / 8)) := fun z hz => hX z (List.mem_of_mem_take hz)
  have hr : (xs.take (i / 8)).length < 65536 := by rw [List.length_take]; omega
  unfold bitAt
  by_cases h7 : i % 8 = 7
  · rw [h7] at hm ⊢
    have hF := hm.last hx hB hr
    rw [Nat.sub_self]
    have e1 : (i + 1) / 8 = i / 8 + 1 := by omega
    have e2 : (i + 1) % 8 = 0 := by omega
    have hn : xs.take (i / 8) ++ [((xs.getD (i / 8) 0).toNat : Int)] = xs.take (i / 8 + 1) := by
      rw [List.take_succ_eq_append_getElem (show i / 8 < xs.length by omega), getD_in _ _ (show i / 8 < xs.length by omega)]
      congr 2
      exact Int.toNat_of_nonneg (hX _ (List.getElem_mem _)).1
    rw [hn] at hF
    exact ⟨fun _ => by rw [e1, e2]; exact hF.mid (hX.at _), hF.wf⟩
  · obtain ⟨k, hk⟩ : ∃ k, 8 - i % 8 = k + 2 := ⟨6 - i % 8, by omega⟩
    rw [hk] at hm
    have hw := hm.within hx (by omega) hB hr
    have e1 : (i + 1) / 8 = i / 8 := by omega
    have e2 : 8 - (i + 1) % 8 = k + 1 := by omega
    have e3 : 7 - i % 8 = k + 1 := by omega
    rw [e3]
    exact ⟨fun _ => by rw [e1, e2]; exact hw, hw.wf⟩
/-- What TopMatchesFollow asks of a model that expects a bit. -/
structure Follows (n : Nat) (seen : List Int) (sh : Nat) (m : M) (l p f : Nat) : Prop where
  len : m.len = l
  at_ : m.at_ = p
  least : n ≤ l
  pos : 1 ≤ l
  few : l ≤ 255
  le : l ≤ p
  lt : p < seen.length
  byte : seen.getD p 0 = f
  f256 : f < 256
  bit : m.bit = ((f / 2 ^ sh % 2 : Nat) : Int)
  win : (seen.drop (p - l)).take l = seen.drop (seen.length - l)
theorem Bits.follows {nb : Int} {n : Nat} {xs : List Int} {i : Nat} {m : M} (h : Bits nb n xs i m) (hX : Byt xs) (hi : i < 8 * xs.length) (h0 : m.len ≠ 0) :
    ∃ l p f, Follows n (xs.take (i / 8)) (7 - i % 8) m l p f := by
  have hm := h.mid hi
  have hB : Byt (xs.take (i / 8)) := fun z hz => hX z (List.mem_of_mem_take hz)
  obtain ⟨k, hk⟩ : ∃ k, 8 - i % 8 = k + 1 := ⟨7 - i % 8, by omega⟩
  rw [hk] at hm
  obtain ⟨l, p, f, a1, a2, a3, a4, a5, a6, a7, a8, a9, a10, a11, _⟩ := hm.bit (hX.at _) (by omega) hB h0
  rw [show 7 - i % 8 = k by omega]
  exact ⟨l, p, f, a1, a2, by omega, a4, a5, a6, a7, a8, a9, a10, rep_slice a11 (by omega)⟩
end Go.Proofs.Ytbfgdaijpcbddaa.S12
