/- The plain law of SlotsSeparates: three contexts with the same places. No condition. -/
import Derived.Test.YtgbjckjfjoiilaaW10ak
set_option linter.unusedSimpArgs false
set_option linter.unusedVariables false
set_option linter.unusedSectionVars false
namespace Go.Proofs.Ytgbjckjfjoiilaa
open Go.RowKit

theorem prio_congr {xs ys : List Int} {k : Nat} (h : xs.getD (16 * k + 1) 0 = ys.getD (16 * k + 1) 0) : S10.prio xs k = S10.prio ys k := by unfold S10.prio; rw [h]
theorem prio_zero {xs : List Int} {k : Nat} (h : xs.getD (16 * k + 1) 0 = 0) : S10.prio xs k = 0 := by
  unfold S10.prio
  rw [h]
  decide +kernel
theorem prio_next {xs : List Int} {k b : Nat} (hb : b < 2) (h : xs.getD (16 * k + 1) 0 = S09.next 0 b) : S10.prio xs k = 1 := by
  unfold S10.prio
  rw [h]
  have e : b = 0 ∨ b = 1 := by omega
  rcases e with rfl | rfl <;> decide +kernel

theorem find3 (q : Nat → Bool) (a b c : Nat) : [a, b, c].find? q = if q a = true then some a else if q b = true then some b else if q c = true then some c else none := by
  rw [List.find?_cons, List.find?_cons, List.find?_cons, List.find?_nil]
  cases q a <;> cases q b <;> cases q c <;> rfl
theorem least3 (xs : List Int) (a b c : Nat) : S10.least xs [a, b, c] = S10.lstep xs (S10.lstep xs (some a) b) c := rfl

structure Places3 (n : Nat) (p m H : Nat → Nat) : Prop where
  lt : ∀ t, t < 3 → p t < 2 ^ n
  ne : ∀ s t, s < 3 → t < 3 → s ≠ t → p s ≠ p t
  mne : ∀ s t, s < 3 → t < 3 → s ≠ t → m s ≠ m t
  pl : ∀ t, t < 3 → S10.places n (H t) = [p 0, p 1, p 2]
  mark : ∀ t, t < 3 → S10.mark (H t) = m t
  hl : ∀ t, t < 3 → H t < 4294967296
structure Sep (n : Nat) (p m : Nat → Nat) (j : Nat) (xs : List Int) : Prop where
  good : Good n xs
  lo : ∀ t, t < j → t < 3 → xs.getD (16 * p t) 0 = (m t : Int) ∧ S10.prio xs (p t) = 1
  hi : ∀ t, j ≤ t → t < 3 → xs.getD (16 * p t) 0 = 0 ∧ xs.getD (16 * p t + 1) 0 = 0
  z : ∀ t, t < 3 → ∀ k, 2 ≤ k → k ≤ 15 → xs.getD (16 * p t + k) 0 = 0
theorem Sep.new {n : Nat} (hn : n ≤ 16) (p m : Nat → Nat) : Sep n p m 0 (List.replicate (16 * 2 ^ n) 0) :=
  ⟨Good.new hn, fun t h _ => absurd h (by omega), fun t _ _ => ⟨getD_zeros _ _, getD_zeros _ _⟩, fun t _ k _ _ => getD_zeros _ _⟩

section
variable {n : Nat} {p m H : Nat → Nat} (hP : Places3 n p m H) {j : Nat} {xs : List Int} (hS : Sep n p m j xs) (hj : j < 3)
include hP hS hj
theorem Sep.has_lo {t : Nat} (h : t < j) : S10.has xs (m j) (p t) = false := by
  unfold S10.has
  rw [(hS.lo t h (by omega)).1]
  have := hP.mne t j (by omega) hj (by omega)
  simp; omega
theorem Sep.has_hi {t : Nat} (h : j ≤ t) (ht : t < 3) : S10.has xs (m j) (p t) = decide (m j = 0) := by
  unfold S10.has
  rw [(hS.hi t h ht).1]
  by_cases e : m j = 0
  · simp [e]
  · simp [e]; omega
theorem Sep.openN : S10.openN (n : Int) xs (H j) = p j := by
  have hf : S10.find n xs (H j) = if m j = 0 then some (p j) else none := by
    rw [S10.find_def, hP.pl j hj, hP.mark j hj, find3]
    have e3 : j = 0 ∨ j = 1 ∨ j = 2 := by omega
    rcases e3 with rfl | rfl | rfl
    · rw [hS.has_hi hP hj (Nat.le_refl _) (by omega), hS.has_hi hP hj (t := 1) (by omega) (by omega), hS.has_hi hP hj (t := 2) (by omega) (by omega)]
      by_cases e : m 0 = 0 <;> simp [e]
    · rw [hS.has_lo hP hj (t := 0) (by omega), hS.has_hi hP hj (Nat.le_refl _) (by omega), hS.has_hi hP hj (t := 2) (by omega) (by omega)]
      by_cases e : m 1 = 0 <;> simp [e]
    · rw [hS.has_lo hP hj (t := 0) (by omega), hS.has_lo hP hj (t := 1) (by omega), hS.has_hi hP hj (Nat.le_refl _) (by omega)]
      by_cases e : m 2 = 0 <;> simp [e]
  by_cases e : m j = 0
  · rw [if_pos e] at hf
    exact hS.good.openN_found (H j) hf
  · rw [if_neg e] at hf
    have hl := hS.good.openN_least (H j) hf
    rw [hP.pl j hj, least3] at hl
    have hz : ∀ t, j ≤ t → t < 3 → S10.prio xs (p t) = 0 := fun t h1 h2 => prio_zero (hS.hi t h1 h2).2
    have ho : ∀ t, t < j → S10.prio xs (p t) = 1 := fun t h1 => (hS.lo t h1 (by omega)).2
    have e3 : j = 0 ∨ j = 1 ∨ j = 2 := by omega
    rcases e3 with rfl | rfl | rfl
    · rw [lstep_some, hz 1 (by omega) (by omega), hz 0 (by omega) (by omega), if_neg (by omega), lstep_some, hz 2 (by omega) (by omega), hz 0 (by omega) (by omega), if_neg (by omega)] at hl
      exact (Option.some.inj hl).symm
    · rw [lstep_some, hz 1 (by omega) (by omega), ho 0 (by omega), if_pos (by omega), lstep_some, hz 2 (by omega) (by omega), hz 1 (by omega) (by omega), if_neg (by omega)] at hl
      exact (Option.some.inj hl).symm
    · rw [lstep_some, ho 1 (by omega), ho 0 (by omega), if_neg (by omega), lstep_some, hz 2 (by omega) (by omega), ho 0 (by omega), if_pos (by omega)] at hl
      exact (Option.some.inj hl).symm
theorem Sep.openX_in {k : Nat} (h1 : 1 ≤ k) (h2 : k ≤ 15) : (S10.openX (n : Int) xs (H j)).getD (16 * p j + k) 0 = 0 := by
  have hn := hS.openN hP hj
  have hlt := hP.lt j hj
  have hl := hS.good.len
  rw [hS.good.openX_eq (H j), hn]
  split
  · by_cases e : k = 1
    · rw [e]; exact (hS.hi j (Nat.le_refl _) hj).2
    · exact hS.z j hj k (by omega) h2
  · rw [fresh_getD _ (by omega), if_neg (by omega), if_pos (by omega)]
theorem Sep.run {b : Nat} (hb : b < 2) : Sep n p m (j + 1) (S10.runX n xs (H j) 1 b) := by
  have hn := hS.openN hP hj
  have hlt := hP.lt j hj
  have hl := hS.good.len
  have hg2 := hS.good.openX (H j) (hP.hl j hj)
  have hl2 := hg2.len
  have hX : S10.runX n xs (H j) 1 b = (S10.openX (n : Int) xs (H j)).set (16 * p j + 1) (S09.next 0 b) := by
    unfold S10.runX
    rw [hn, hS.openX_in hP hj (Nat.le_refl _) (by omega)]
  have hin : 16 * p j + 1 < (S10.openX (n : Int) xs (H j)).length := by omega
  have hout : ∀ t, t < 3 → t ≠ j → ∀ k, k < 16 → (S10.runX n xs (H j) 1 b).getD (16 * p t + k) 0 = xs.getD (16 * p t + k) 0 := fun t ht hne k hk => by
    have := hP.ne t j ht hj hne
    rw [hX, getD_set0, if_neg (by omega), hS.good.openX_out (H j) _ (by rw [hn]; omega)]
  have hat : (S10.runX n xs (H j) 1 b).getD (16 * p j + 1) 0 = S09.next 0 b := by rw [hX, getD_set0, if_pos ⟨rfl, hin⟩]
  have hmk : (S10.runX n xs (H j) 1 b).getD (16 * p j) 0 = (m j : Int) := by
    have := hS.good.openX_mark (H j)
    rw [hn, hP.mark j hj] at this
    rw [hX, getD_set0, if_neg (by omega)]
    exact this
  refine ⟨hS.good.run (hP.hl j hj) (Nat.le_refl _) (by omega) hb, fun t h1 h2 => ?_, fun t h1 h2 => ?_, fun t ht k h1 h2 => ?_⟩
  · by_cases e : t = j
    · subst e
      exact ⟨hmk, prio_next hb hat⟩
    · have h := hS.lo t (by omega) h2
      exact ⟨(hout t h2 e 0 (by omega)).trans h.1, (prio_congr (hout t h2 e 1 (by omega))).trans h.2⟩
  · have h := hS.hi t (by omega) h2
    exact ⟨(hout t h2 (by omega) 0 (by omega)).trans h.1, (hout t h2 (by omega) 1 (by omega)).trans h.2⟩
  · by_cases e : t = j
    · subst e
      rw [hX, getD_set0, if_neg (by omega)]
      exact hS.openX_in hP hj (by omega) h2
    · exact (hout t ht e k (by omega)).trans (hS.z t ht k h1 h2)
end

section
variable {n : Nat} {p m H : Nat → Nat} (hP : Places3 n p m H) {xs : List Int} (hS : Sep n p m 3 xs) {k : Nat} (h2 : 2 ≤ k) (h15 : k ≤ 15)
include hP hS h2 h15
theorem Sep.set_good : Good n (xs.set (16 * p 1 + k) 9) := hS.good.set _ _ ⟨by decide, by decide⟩ (fun _ => by decide)
theorem Sep.set_mark {t : Nat} (ht : t < 3) : (xs.set (16 * p 1 + k) 9).getD (16 * p t) 0 = (m t : Int) := by
  rw [getD_set0, if_neg (by omega)]
  exact (hS.lo t ht ht).1
theorem Sep.set_find {t : Nat} (ht : t < 3) : S10.find n (xs.set (16 * p 1 + k) 9) (H t) = some (p t) := by
  have hh : ∀ s, s < 3 → S10.has (xs.set (16 * p 1 + k) 9) (m t) (p s) = decide (s = t) := fun s hs => by
    unfold S10.has
    rw [hS.set_mark hP h2 h15 hs]
    by_cases e : s = t
    · subst e; simp
    · have := hP.mne s t hs ht e
      simp [e]; omega
  rw [S10.find_def, hP.pl t ht, hP.mark t ht, find3, hh 0 (by omega), hh 1 (by omega), hh 2 (by omega)]
  have e3 : t = 0 ∨ t = 1 ∨ t = 2 := by omega
  rcases e3 with rfl | rfl | rfl <;> rfl
theorem Sep.set_at {t : Nat} (ht : t < 3) : (xs.set (16 * p 1 + k) 9).getD (16 * p t + k) 0 = if t = 1 then 9 else 0 := by
  have hl := hS.good.len
  have h1 := hP.lt 1 (by omega)
  rw [getD_set0]
  by_cases e : t = 1
  · subst e
    rw [if_pos ⟨rfl, by omega⟩, if_pos rfl]
  · have := hP.ne 1 t (by omega) ht (fun h => e h.symm)
    rw [if_neg (by omega), if_neg e]
    exact hS.z t ht k h2 h15
end

theorem xor3 : ∀ f, f < 32 → (f ^^^ 0 = f ∧ f ^^^ 1 ≠ f ∧ f ^^^ 2 ≠ f ∧ f ^^^ 1 ≠ f ^^^ 2) := by decide +kernel
theorem places3 {n h : Nat} (h2 : 2 ≤ n) (h5 : n ≤ 5) : S10.places n h = [S10.first n h ^^^ 0, S10.first n h ^^^ 1, S10.first n h ^^^ 2] := by
  have hf := S10.first_lt n h
  have hp : 4 ≤ 2 ^ n := Nat.pow_le_pow_right (n := 2) (by omega) h2
  have hx : ∀ k, k < 3 → S10.first n h ^^^ k < 2 ^ n := fun k hk => Nat.xor_lt_two_pow hf (by omega)
  have e0 : S10.plc n h 0 = [] := rfl
  have e1 : S10.plc n h 1 = [S10.first n h ^^^ 0] := by rw [S10.plc_succ, if_pos (hx 0 (by omega)), e0]; rfl
  have e2 : S10.plc n h 2 = [S10.first n h ^^^ 0, S10.first n h ^^^ 1] := by rw [S10.plc_succ, if_pos (hx 1 (by omega)), e1]; rfl
  show S10.plc n h 3 = _
  rw [S10.plc_succ, if_pos (hx 2 (by omega)), e2]; rfl
theorem first_low {n a b : Nat} (h5 : n ≤ 5) (h : a % 16777216 = b % 16777216) : S10.first n a = S10.first n b := by
  unfold S10.first
  have e : n = 0 ∨ n = 1 ∨ n = 2 ∨ n = 3 ∨ n = 4 ∨ n = 5 := by omega
  rcases e with rfl | rfl | rfl | rfl | rfl | rfl <;> simp only [Nat.reducePow] <;> omega

/-- The hash with the check byte of one and the lower digits of another. -/
def mixH (a b : Nat) : Nat := a / 16777216 * 16777216 + b % 16777216
theorem mixH_lt {a b : Nat} (ha : a < 4294967296) : mixH a b < 4294967296 := by unfold mixH; omega
theorem mixH_self (a : Nat) : mixH a a = a := by unfold mixH; omega
theorem mixH_low (a b : Nat) : mixH a b % 16777216 = b % 16777216 := by unfold mixH; omega
theorem mixH_mark (a b : Nat) : S10.mark (mixH a b) = a / 16777216 := by unfold S10.mark mixH; omega
theorem places3_ok {n : Nat} (h2 : 2 ≤ n) (h5 : n ≤ 5) (h : Nat → Nat) (hl : ∀ t, t < 3 → h t < 4294967296) (hne : ∀ s t, s < 3 → t < 3 → s ≠ t → h s / 16777216 ≠ h t / 16777216) :
    Places3 n (fun t => S10.first n (h 0) ^^^ t) (fun t => h t / 16777216) (fun t => mixH (h t) (h 0)) := by
  have hf := S10.first_lt n (h 0)
  have hp : 4 ≤ 2 ^ n := Nat.pow_le_pow_right (n := 2) (by omega) h2
  have hp5 : 2 ^ n ≤ 32 := Nat.pow_le_pow_right (n := 2) (by omega) h5
  have hx := xor3 (S10.first n (h 0)) (by omega)
  refine ⟨fun t ht => Nat.xor_lt_two_pow hf (by omega), fun s t hs ht hne => ?_, hne, fun t ht => ?_, fun t ht => mixH_mark _ _, fun t ht => mixH_lt (hl t ht)⟩
  · have e1 : s = 0 ∨ s = 1 ∨ s = 2 := by omega
    have e2 : t = 0 ∨ t = 1 ∨ t = 2 := by omega
    show S10.first n (h 0) ^^^ s ≠ S10.first n (h 0) ^^^ t
    rcases e1 with rfl | rfl | rfl <;> rcases e2 with rfl | rfl | rfl <;> first | exact absurd rfl hne | (rw [hx.1]; first | exact hx.2.1 | exact hx.2.2.1 | exact fun e => hx.2.1 e.symm | exact fun e => hx.2.2.1 e.symm) | exact hx.2.2.2 | exact fun e => hx.2.2.2 e.symm
  · rw [places3 h2 h5, first_low (b := h 0) h5 (mixH_low _ _)]
end Go.Proofs.Ytgbjckjfjoiilaa
