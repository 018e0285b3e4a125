/- The longest repetition. No program, no condition. -/
import Derived.Test.YtbfgdaijpcbddaaSpec12f
set_option linter.unusedSimpArgs false
set_option linter.unusedVariables false
set_option linter.unusedSectionVars false
namespace Go.Proofs.Ytbfgdaijpcbddaa.S12

theorem longTo_spec (b : List Int) (least : Int) : ∀ k, (∀ p, 1 ≤ p → p < k → least ≤ rep b p → rep b p ≤ (longTo b least k).2 ∧ (rep b p = (longTo b least k).2 → p ≤ (longTo b least k).1)) ∧
    ((longTo b least k).1 = 0 ∧ (longTo b least k).2 = 0 ∨ (longTo b least k).2 = rep b (longTo b least k).1 ∧ 1 ≤ (longTo b least k).1 ∧ (longTo b least k).1 < k)
  | 0 => ⟨fun p _ h => by omega, .inl ⟨rfl, rfl⟩⟩
  | k + 1 => by
    obtain ⟨h1, h2⟩ := longTo_spec b least k
    by_cases hk : k = 0
    · subst hk
      have e : longTo b least (0 + 1) = (0, 0) := by unfold longTo; rw [if_pos rfl]
      rw [e]
      exact ⟨fun p a b => by omega, .inl ⟨rfl, rfl⟩⟩
    · have e : longTo b least (k + 1) = if (longTo b least k).2 ≤ rep b k ∧ least ≤ rep b k then (k, rep b k) else longTo b least k := by
        rw [longTo]; rw [if_neg hk]
      rw [e]
      by_cases hc : (longTo b least k).2 ≤ rep b k ∧ least ≤ rep b k
      · rw [if_pos hc]
        refine ⟨fun p ha hb hl => ?_, .inr ⟨rfl, by omega, by omega⟩⟩
        by_cases hpk : p = k
        · subst hpk; exact ⟨Nat.le_refl _, fun _ => Nat.le_refl _⟩
        · have := h1 p ha (by omega) hl
          exact ⟨by simp only; omega, fun _ => by simp only; omega⟩
      · rw [if_neg hc]
        refine ⟨fun p ha hb hl => ?_, ?_⟩
        · by_cases hpk : p = k
          · subst hpk
            have : ¬ (longTo b least p).2 ≤ rep b p := fun h => hc ⟨h, hl⟩
            exact ⟨by omega, fun h => by omega⟩
          · exact h1 p ha (by omega) hl
        · rcases h2 with h2 | ⟨a1, a2, a3⟩
          · exact .inl h2
          · exact .inr ⟨a1, a2, by omega⟩
/-- A string between two copies of another: what MatchLongest asks. -/
theorem twice_rep (a b : List Int) (h1 : 1 ≤ a.length) (h2 : a.length ≤ 255) : a.length ≤ rep (a ++ b ++ a) a.length := by
  refine le_rep (by omega) (fun i hi => ?_)
  unfold eqAt
  have e1 : (a ++ b ++ a).getD (a.length - 1 - i) 0 = a.getD (a.length - 1 - i) 0 := by
    rw [List.getD, List.getD, List.append_assoc, List.getElem?_append_left (by omega)]
  have e2 : (a ++ b ++ a).getD ((a ++ b ++ a).length - 1 - i) 0 = a.getD (a.length - 1 - i) 0 := by
    rw [List.getD, List.getD, List.getElem?_append_right (by simp only [List.length_append]; omega)]
    congr 2
    simp only [List.length_append]
    omega
  rw [e1, e2]
  simp
theorem longest_twice (a b : List Int) (h1 : 1 ≤ a.length) (h2 : a.length ≤ 255) (hl : (a ++ b ++ a).length ≤ 65536) :
    ∃ p n : Nat, longest (a ++ b ++ a) 1 = (p, n) ∧ a.length ≤ n ∧ n ≤ p ∧ p < (a ++ b ++ a).length ∧ n ≤ 255 ∧ ((a ++ b ++ a).drop (p - n)).take n = (a ++ b ++ a).drop ((a ++ b ++ a).length - n) ∧
      ∀ q, 1 ≤ q → q < (a ++ b ++ a).length → rep (a ++ b ++ a) q ≤ n ∧ (rep (a ++ b ++ a) q = n → q ≤ p) := by
  have e : longest (a ++ b ++ a) 1 = longTo (a ++ b ++ a) 1 (a ++ b ++ a).length := by unfold longest; rw [if_neg (by omega)]
  have hr := twice_rep a b h1 h2
  have hlen : a.length < (a ++ b ++ a).length := by simp only [List.length_append]; omega
  obtain ⟨s1, s2⟩ := longTo_spec (a ++ b ++ a) 1 (a ++ b ++ a).length
  have s3 := s1 a.length h1 hlen (by omega)
  rw [e]
  obtain ⟨⟨p, n⟩, hpn⟩ : ∃ q, longTo (a ++ b ++ a) 1 (a ++ b ++ a).length = q := ⟨_, rfl⟩
  rw [hpn] at s1 s2 s3 ⊢
  simp only at s1 s2 s3
  rcases s2 with ⟨_, h⟩ | ⟨a1, a2, a3⟩
  · omega
  · have hle := rep_le (a ++ b ++ a) p
    refine ⟨p, n, rfl, by omega, by omega, a3, by omega, rep_slice (by omega) (by omega), fun q hq1 hq2 => ?_⟩
    by_cases hz : 1 ≤ rep (a ++ b ++ a) q
    · exact s1 q hq1 hq2 (by omega)
    · exact ⟨by omega, fun h => by omega⟩
end Go.Proofs.Ytbfgdaijpcbddaa.S12
