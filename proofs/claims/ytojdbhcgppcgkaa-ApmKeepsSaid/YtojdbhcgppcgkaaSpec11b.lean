/- Plain laws of layer 11: a new map. No program in sight. -/
import Derived.Test.YtojdbhcgppcgkaaW11i
set_option linter.unusedSimpArgs false
set_option linter.unusedVariables false
set_option linter.unusedSectionVars false
namespace Go.Proofs.Ytojdbhcgppcgkaa
open Go.RowKit

theorem S06.spot_mono {p q : Int} (h : p ≤ q) : S06.spot p ≤ S06.spot q := by
  have h1 := S06.spot_cuts p
  have h2 := S06.spot_cuts q
  have hc : S06.chance p ≤ S06.chance q := by unfold S06.chance; omega
  rcases Nat.lt_or_ge (S06.spot q) (S06.spot p) with hl | hl
  · have hle := S06.spot_le p
    have a1 := (h1.2 (S06.spot q) (by omega)).2 hl
    have a2 : ¬ S06.squash ((S06.spot q : Int) - 3071) < S06.chance q := fun h' => by
      have := (h2.2 (S06.spot q) (by omega)).1 h'
      omega
    omega
  · exact hl
theorem S06.stretch_mono {p q : Int} (h : p ≤ q) : S06.stretch p ≤ S06.stretch q := by
  have := S06.spot_mono h
  unfold S06.stretch; omega

theorem S11.first_getD {k : Nat} (h : k < 33) : S11.first.getD k 0 = 16 * S06.squash (192 * (k : Int) - 3072) := by
  rw [List.getD_eq_getElem?_getD, List.getElem?_eq_getElem (by rw [S11.first_length]; exact h), Option.getD_some, S11.first_at h]
theorem S11.new_one : S11.newL 1 = S11.first := by
  have e : S11.newL 1 = reps S11.first 1 := by unfold S11.newL; rw [if_neg (by omega)]; rfl
  rw [e, reps_one]
theorem S11.first_check : S11.check S11.first = 0 := by decide +kernel
theorem S11.usable_new {L : List Int} (hc : S11.check L = 0) {c p : Int} (h0 : 0 ≤ c) (h1 : c < (L.length / 33 : Nat)) (h2 : 1 ≤ p) (h3 : p ≤ 4095) : S11.usable L c p = 0 := by
  unfold S11.usable
  rw [if_neg (by simpa using hc), if_neg (by omega), if_neg (by omega)]
theorem S11.refineR_ok {L : List Int} {c : Nat} {p : Int} (h : S11.usable L c p = 0) : S11.refineR L c p = S11.refine L c p := by
  unfold S11.refineR; rw [if_pos h]; rfl

/-- What is between two cells. -/
theorem S11.mix_between {a b f : Int} (hab : a ≤ b) (h0 : 0 ≤ f) (h1 : f ≤ 191) : a ≤ S11.mix a b f ∧ S11.mix a b f ≤ b := by
  unfold S11.mix
  have e : a * (192 - f) + b * f = 192 * a + (b - a) * f := by
    rw [Int.mul_sub, Int.sub_mul]
    omega
  have e2 : a * (192 - f) + b * f = 192 * b - (b - a) * (192 - f) := by
    rw [Int.mul_sub, Int.mul_sub, Int.sub_mul, Int.sub_mul]
    omega
  have p1 : 0 ≤ (b - a) * f := Int.mul_nonneg (by omega) h0
  have p2 : 0 ≤ (b - a) * (192 - f) := Int.mul_nonneg (by omega) (by omega)
  omega
theorem S11.mix_mono {a b f f' : Int} (hab : a ≤ b) (h : f ≤ f') : S11.mix a b f ≤ S11.mix a b f' := by
  unfold S11.mix
  refine Int.ediv_le_ediv (by omega) ?_
  have e : ∀ f, a * (192 - f) + b * f = 192 * a + (b - a) * f := fun f => by
    rw [Int.mul_sub, Int.sub_mul]
    omega
  rw [e f, e f']
  have := Int.mul_le_mul_of_nonneg_left h (show 0 ≤ b - a by omega)
  omega
def S11.low (p : Int) : Int := 192 * (S11.at p : Int) - 3072
theorem S11.first_mix (p : Int) : S11.refine S11.first 0 p = S11.clamp (S11.mix (16 * S06.squash (S11.low p)) (16 * S06.squash (S11.low p + 192)) (S11.from p)) := by
  have h := S11.at_le p
  unfold S11.refine
  rw [Nat.mul_zero, Nat.zero_add, S11.first_getD (by omega), S11.first_getD (by omega)]
  unfold S11.low
  rw [show 192 * ((S11.at p + 1 : Nat) : Int) - 3072 = 192 * (S11.at p : Int) - 3072 + 192 by push_cast; omega]
/-- A new map leads to a probability between those of both cells. -/
theorem S11.starts (p : Int) : S06.squash (S11.low p) ≤ S11.refine S11.first 0 p ∧ S11.refine S11.first 0 p ≤ S06.squash (S11.low p + 192) := by
  rw [S11.first_mix]
  have b1 := S06.squash_bounds (S11.low p)
  have b2 := S06.squash_bounds (S11.low p + 192)
  have hm := S06.squash_mono (x := S11.low p) (y := S11.low p + 192) (by omega)
  have hf := S11.from_bounds p
  have := S11.mix_between (a := 16 * S06.squash (S11.low p)) (b := 16 * S06.squash (S11.low p + 192)) (by omega) hf.1 hf.2
  unfold S11.clamp
  omega
/-- What a new map refines never falls. -/
theorem S11.rises {p q : Int} (h : p ≤ q) : S11.refine S11.first 0 p ≤ S11.refine S11.first 0 q := by
  have hs := S06.stretch_mono h
  have x1 := S11.x_bounds p
  have x2 := S11.x_bounds q
  have ha1 := S11.at_int p
  have ha2 := S11.at_int q
  have hf1 : S11.from p = (S06.stretch p + 3072) % 192 := rfl
  have hf2 : S11.from q = (S06.stretch q + 3072) % 192 := rfl
  rcases Nat.lt_or_ge (S11.at p) (S11.at q) with hl | hl
  · have s1 := S11.starts p
    have s2 := S11.starts q
    have hm := S06.squash_mono (x := S11.low p + 192) (y := S11.low q) (by unfold S11.low; omega)
    omega
  · have he : S11.at p = S11.at q := by omega
    have hlo : S11.low p = S11.low q := by unfold S11.low; rw [he]
    rw [S11.first_mix, S11.first_mix, hlo]
    have b1 := S06.squash_bounds (S11.low q)
    have hm := S06.squash_mono (x := S11.low q) (y := S11.low q + 192) (by omega)
    have := S11.mix_mono (a := 16 * S06.squash (S11.low q)) (b := 16 * S06.squash (S11.low q + 192)) (f := S11.from p) (f' := S11.from q) (by omega) (by omega)
    unfold S11.clamp
    omega
theorem S11.refine_bounds (L : List Int) (c : Nat) (p : Int) : 1 ≤ S11.refine L c p ∧ S11.refine L c p ≤ 4095 := by
  unfold S11.refine S11.clamp; omega
end Go.Proofs.Ytojdbhcgppcgkaa
