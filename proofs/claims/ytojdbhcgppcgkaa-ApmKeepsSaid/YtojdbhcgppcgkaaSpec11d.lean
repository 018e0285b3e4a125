/- Plain laws of layer 11: what a lesson moves. No program in sight. -/
import Derived.Test.YtojdbhcgppcgkaaSpec11c
set_option linter.unusedSimpArgs false
set_option linter.unusedVariables false
set_option linter.unusedSectionVars false
namespace Go.Proofs.Ytojdbhcgppcgkaa
open Go.RowKit

theorem S11.mix_le {a b a' b' f : Int} (ha : a ≤ a') (hb : b ≤ b') (h0 : 0 ≤ f) (h1 : f ≤ 191) : S11.mix a b f ≤ S11.mix a' b' f := by
  unfold S11.mix
  refine Int.ediv_le_ediv (by omega) ?_
  have h2 := Int.mul_le_mul_of_nonneg_right ha (show 0 ≤ 192 - f by omega)
  have h3 := Int.mul_le_mul_of_nonneg_right hb h0
  omega
theorem S11.clamp_le {a b : Int} (h : a ≤ b) : S11.clamp a ≤ S11.clamp b := by
  have := Int.ediv_le_ediv (show (0 : Int) < 16 by omega) h
  unfold S11.clamp; omega
theorem S11.learn_up {u rate share : Int} (hu : u ≤ 65535) (hr : 0 ≤ rate) (hs : 0 ≤ share) : u ≤ S11.learn u 1 rate share := by
  unfold S11.learn
  have h1 : 0 ≤ (65535 * 1 - u) * rate * share := Int.mul_nonneg (Int.mul_nonneg (by omega) hr) hs
  have := Int.tdiv_nonneg h1 (show (0 : Int) ≤ 49152 by omega)
  omega
theorem S11.learn_down {u rate share : Int} (hu : 0 ≤ u) (hr : 0 ≤ rate) (hs : 0 ≤ share) : S11.learn u 0 rate share ≤ u := by
  unfold S11.learn
  have h1 : 0 ≤ u * rate * share := Int.mul_nonneg (Int.mul_nonneg hu hr) hs
  have e : (65535 * 0 - u) * rate * share = -(u * rate * share) := by rw [show 65535 * 0 - u = -u by omega, Int.neg_mul, Int.neg_mul]
  rw [e, Int.neg_tdiv]
  have := Int.tdiv_nonneg h1 (show (0 : Int) ≤ 49152 by omega)
  omega
theorem S11.place {L : List Int} (h : S11.fit L) {c p : Int} (hc : 0 ≤ c) (hc' : c ≤ 2) : 33 * c.toNat + S11.at p + 1 < L.length := by
  have := S11.at_le p
  rw [h.1]; omega
/-- What the map refines that has learned at the same place. -/
theorem S11.refine_update {L : List Int} {c : Nat} {p bit rate : Int} (h : 33 * c + S11.at p + 1 < L.length) : S11.refine (S11.update L c p bit rate) c p =
    S11.clamp (S11.mix (S11.learn (L.getD (33 * c + S11.at p) 0) bit rate (192 - S11.from p)) (S11.learn (L.getD (33 * c + S11.at p + 1) 0) bit rate (S11.from p)) (S11.from p)) := by
  unfold S11.refine S11.update
  have e1 : ∀ (M : List Int) (i : Nat) (v : Int), i < M.length → (M.set i v).getD i 0 = v := fun M i v hi => by simp [List.getD_eq_getElem?_getD, hi]
  have e2 : ∀ (M : List Int) (i j : Nat) (v : Int), i ≠ j → (M.set i v).getD j 0 = M.getD j 0 := fun M i j v hi => by simp [List.getD_eq_getElem?_getD, hi]
  rw [e2 _ (33 * c + S11.at p + 1) (33 * c + S11.at p) _ (by omega), e1 _ _ _ (by omega), e1 _ _ _ (by simp; omega)]
/-- A bit moves what is refined towards it. -/
theorem S11.tell_moves {L : List Int} (h : S11.fit L) (x : Lsn) (hx : x.ok) :
    (x.bit = true → S11.refine L (x.ctx % 3).toNat (S11.ch x.prob) ≤ S11.refine (S11.tell L x) (x.ctx % 3).toNat (S11.ch x.prob)) ∧
    (x.bit = false → S11.refine (S11.tell L x) (x.ctx % 3).toNat (S11.ch x.prob) ≤ S11.refine L (x.ctx % 3).toNat (S11.ch x.prob)) := by
  have hp := S11.place (p := S11.ch x.prob) h (c := x.ctx % 3) (by omega) (by omega)
  have hf := S11.from_bounds (S11.ch x.prob)
  have g1 := S11.fit_get h (33 * (x.ctx % 3).toNat + S11.at (S11.ch x.prob))
  have g2 := S11.fit_get h (33 * (x.ctx % 3).toNat + S11.at (S11.ch x.prob) + 1)
  rw [S11.tell_eq h x hx, S11.refine_update hp]
  constructor
  · intro hb
    rw [hb]
    exact S11.clamp_le (S11.mix_le (S11.learn_up g1.2 (by omega) (by omega)) (S11.learn_up g2.2 (by omega) (by omega)) hf.1 hf.2)
  · intro hb
    rw [hb]
    exact S11.clamp_le (S11.mix_le (S11.learn_down g1.1 (by omega) (by omega)) (S11.learn_down g2.1 (by omega) (by omega)) hf.1 hf.2)
/-- Elsewhere a bit changes nothing. -/
theorem S11.tell_keeps {L : List Int} (h : S11.fit L) (x : Lsn) (hx : x.ok) (c p : Int) (hc : 0 ≤ c)
    (hfar : c ≠ x.ctx % 3 ∨ 384 ≤ S06.stretch p - S06.stretch (S11.ch x.prob) ∨ S06.stretch p - S06.stretch (S11.ch x.prob) ≤ -384) :
    S11.refine (S11.tell L x) c.toNat p = S11.refine L c.toNat p := by
  rw [S11.tell_eq h x hx]
  have a1 := S11.at_le p
  have a2 := S11.at_le (S11.ch x.prob)
  have a3 := S11.at_int p
  have a4 := S11.at_int (S11.ch x.prob)
  have hx0 : 0 ≤ x.ctx % 3 := by omega
  have hne : 33 * c.toNat + S11.at p + 1 < 33 * (x.ctx % 3).toNat + S11.at (S11.ch x.prob) ∨ 33 * (x.ctx % 3).toNat + S11.at (S11.ch x.prob) + 1 < 33 * c.toNat + S11.at p := by
    rcases Int.lt_trichotomy c (x.ctx % 3) with h1 | h1 | h1
    · left; omega
    · have := hfar.resolve_left (fun e => e h1)
      rw [h1]
      omega
    · right; omega
  have e2 : ∀ (M : List Int) (i j : Nat) (v : Int), i ≠ j → (M.set i v).getD j 0 = M.getD j 0 := fun M i j v hi => by simp [List.getD_eq_getElem?_getD, hi]
  unfold S11.refine S11.update
  rw [e2 _ _ _ _ (by omega), e2 _ _ _ _ (by omega), e2 _ _ _ _ (by omega), e2 _ _ _ _ (by omega)]
end Go.Proofs.Ytojdbhcgppcgkaa
