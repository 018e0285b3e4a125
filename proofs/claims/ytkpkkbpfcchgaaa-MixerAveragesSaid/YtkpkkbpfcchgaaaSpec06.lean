/- The plain law of layer 6 (fixed): evidence and probabilities. No program in sight. -/
set_option linter.unusedSimpArgs false
set_option linter.unusedVariables false
set_option linter.unusedSectionVars false
namespace Go.Proofs.Ytkpkkbpfcchgaaa

def S06.clip (x : Int) : Int := max (-3071) (min x 3071)
def S06.chance (p : Int) : Int := max 1 (min p 4095)
def S06.sqE (n : Nat) : Nat := (65536 - 128 * (n % 256)) / 2 ^ (n / 256)
def S06.sqN (n : Nat) : Nat := 268435456 / (65536 + S06.sqE n)
/-- The probability for some evidence. -/
def S06.squash (x : Int) : Int := if S06.clip x < 0 then 4096 - S06.sqN (-S06.clip x).toNat else S06.sqN (S06.clip x).toNat

theorem S06.sqN_step : (List.range 3071).all (fun n => decide (S06.sqN n ≤ S06.sqN (n + 1))) = true := by decide +kernel
theorem S06.sqN_ends : S06.sqN 0 = 2048 ∧ S06.sqN 3071 = 4095 := by decide +kernel
theorem S06.sqN_mono : ∀ {m n : Nat}, m ≤ n → n ≤ 3071 → S06.sqN m ≤ S06.sqN n := by
  intro m n h hn
  induction n with
  | zero => obtain rfl : m = 0 := by omega
            exact Nat.le_refl _
  | succ n ih =>
    by_cases e : m = n + 1
    · subst e; exact Nat.le_refl _
    · have h1 := S06.sqN_step
      simp only [List.all_eq_true, List.mem_range, decide_eq_true_eq] at h1
      exact Nat.le_trans (ih (by omega) (by omega)) (h1 n (by omega))
theorem S06.sqN_bounds {n : Nat} (h : n ≤ 3071) : 2048 ≤ S06.sqN n ∧ S06.sqN n ≤ 4095 := by
  have h1 := S06.sqN_mono (Nat.zero_le n) h
  have h2 := S06.sqN_mono h (Nat.le_refl 3071)
  rw [S06.sqN_ends.1] at h1
  rw [S06.sqN_ends.2] at h2
  exact ⟨h1, h2⟩
theorem S06.clip_bounds (x : Int) : -3071 ≤ S06.clip x ∧ S06.clip x ≤ 3071 := by unfold S06.clip; omega
theorem S06.clip_in {x : Int} (h : -3071 ≤ x) (h' : x ≤ 3071) : S06.clip x = x := by unfold S06.clip; omega
theorem S06.squash_clip (x : Int) : S06.squash (S06.clip x) = S06.squash x := by
  unfold S06.squash; rw [S06.clip_in (S06.clip_bounds x).1 (S06.clip_bounds x).2]
theorem S06.squash_bounds (x : Int) : 1 ≤ S06.squash x ∧ S06.squash x ≤ 4095 := by
  have h := S06.clip_bounds x
  unfold S06.squash
  split
  · have := S06.sqN_bounds (n := (-S06.clip x).toNat) (by omega); omega
  · have := S06.sqN_bounds (n := (S06.clip x).toNat) (by omega); omega
theorem S06.squash_mono {x y : Int} (h : x ≤ y) : S06.squash x ≤ S06.squash y := by
  have hx := S06.clip_bounds x
  have hy := S06.clip_bounds y
  have hc : S06.clip x ≤ S06.clip y := by unfold S06.clip; omega
  unfold S06.squash
  split
  · have b1 := S06.sqN_bounds (n := (-S06.clip x).toNat) (by omega)
    split
    · have := S06.sqN_mono (m := (-S06.clip y).toNat) (n := (-S06.clip x).toNat) (by omega) (by omega); omega
    · have b2 := S06.sqN_bounds (n := (S06.clip y).toNat) (by omega); omega
  · rw [if_neg (by omega)]
    have := S06.sqN_mono (m := (S06.clip x).toNat) (n := (S06.clip y).toNat) (by omega) (by omega); omega
theorem S06.squash_top : S06.squash 3071 = 4095 := by decide +kernel

/-- The least number from i on, below j, that is not below p. -/
def S06.find (p : Int) : Nat → Nat → Nat → Nat
  | 0, i, _ => i
  | f + 1, i, j => if i < j then (if S06.squash (((i + j) / 2 : Nat) - 3071) < p then S06.find p f ((i + j) / 2 + 1) j else S06.find p f i ((i + j) / 2)) else i
/-- The least evidence for a probability, as a place from -3071 on. -/
def S06.spot (p : Int) : Nat := S06.find (S06.chance p) 13 0 6142
def S06.stretch (p : Int) : Int := (S06.spot p : Int) - 3071

/-- Below k all are less than p, from k on none is. -/
def S06.Cuts (p : Int) (k : Nat) : Prop := k ≤ 6142 ∧ ∀ i : Nat, i < 6142 → (S06.squash ((i : Int) - 3071) < p ↔ i < k)
theorem S06.Cuts.eq {p : Int} {k k' : Nat} (h : S06.Cuts p k) (h' : S06.Cuts p k') : k = k' := by
  rcases Nat.lt_trichotomy k k' with hl | hl | hl
  · have := h'.1
    have h1 := (h.2 k (by omega)).1 ((h'.2 k (by omega)).2 hl)
    omega
  · exact hl
  · have := h.1
    have h1 := (h'.2 k' (by omega)).1 ((h.2 k' (by omega)).2 hl)
    omega
theorem S06.find_spec (p : Int) : ∀ (f i j : Nat), i ≤ j → j ≤ 6142 → j - i < 2 ^ f → (∀ k : Nat, k < i → S06.squash ((k : Int) - 3071) < p) → (∀ k : Nat, j ≤ k → k < 6142 → ¬ S06.squash ((k : Int) - 3071) < p) → S06.Cuts p (S06.find p f i j)
  | 0, i, j, hij, hj, hf, hlo, hhi => by
    obtain rfl : i = j := by simp at hf; omega
    refine ⟨hj, fun k hk => ⟨fun h => ?_, fun h => hlo k h⟩⟩
    rcases Nat.lt_or_ge k i with h1 | h1
    · exact h1
    · exact absurd h (hhi k h1 hk)
  | f + 1, i, j, hij, hj, hf, hlo, hhi => by
    unfold S06.find
    by_cases hlt : i < j
    · rw [if_pos hlt]
      have hp : 2 ^ (f + 1) = 2 * 2 ^ f := by rw [Nat.pow_succ, Nat.mul_comm]
      by_cases hm : S06.squash (((i + j) / 2 : Nat) - 3071) < p
      · rw [if_pos hm]
        refine S06.find_spec p f _ j (by omega) hj (by omega) (fun k hk => ?_) hhi
        have := S06.squash_mono (x := (k : Int) - 3071) (y := ((i + j) / 2 : Nat) - 3071) (by omega)
        omega
      · rw [if_neg hm]
        refine S06.find_spec p f i _ (by omega) (by omega) (by omega) hlo (fun k hk hk' => ?_)
        have := S06.squash_mono (x := ((i + j) / 2 : Nat) - 3071) (y := (k : Int) - 3071) (by omega)
        omega
    · rw [if_neg hlt]
      obtain rfl : i = j := by omega
      refine ⟨hj, fun k hk => ⟨fun h => ?_, fun h => hlo k h⟩⟩
      rcases Nat.lt_or_ge k i with h1 | h1
      · exact h1
      · exact absurd h (hhi k h1 hk)
theorem S06.spot_cuts (p : Int) : S06.Cuts (S06.chance p) (S06.spot p) := S06.find_spec _ 13 0 6142 (by omega) (by omega) (by decide) (fun k hk => by omega) (fun k hk hk' => by omega)
theorem S06.spot_le (p : Int) : S06.spot p ≤ 6142 := (S06.spot_cuts p).1
theorem S06.stretch_bounds (p : Int) : -3071 ≤ S06.stretch p ∧ S06.stretch p ≤ 3071 := by have := S06.spot_le p; unfold S06.stretch; omega
end Go.Proofs.Ytkpkkbpfcchgaaa
