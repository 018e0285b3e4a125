/- Layer 10's laws in plain words: tables that are correct, and what opening and setting do to them. No condition. -/
import Derived.Test.YtgbjckjfjoiilaaW10ad
set_option linter.unusedSimpArgs false
set_option linter.unusedVariables false
set_option linter.unusedSectionVars false
namespace Go.Proofs.Ytgbjckjfjoiilaa
open Go.RowKit

theorem getD_set0 (xs : List Int) (i j : Nat) (v : Int) : (xs.set i v).getD j 0 = if i = j ∧ i < xs.length then v else xs.getD j 0 := by
  rw [List.getD_eq_getElem?_getD, List.getD_eq_getElem?_getD, List.getElem?_set]
  by_cases h : i = j
  · subst h
    by_cases h2 : i < xs.length
    · simp [h2]
    · simp [h2]
  · simp [h]
theorem getD_setMany : ∀ (ys : List Int) (i : Nat) (xs : List Int) (j : Nat), (S10.setMany xs i ys).getD j 0 = if i ≤ j ∧ j < i + ys.length ∧ j < xs.length then ys.getD (j - i) 0 else xs.getD j 0
  | [], i, xs, j => by
    show xs.getD j 0 = _
    rw [if_neg (by simp; omega)]
  | y :: ys, i, xs, j => by
    show (S10.setMany (xs.set i y) (i + 1) ys).getD j 0 = _
    rw [getD_setMany ys (i + 1) (xs.set i y) j, getD_set0, List.length_set]
    simp only [List.length_cons]
    by_cases h1 : i = j
    · subst h1
      rw [if_neg (by omega)]
      by_cases h2 : i < xs.length
      · rw [if_pos ⟨rfl, h2⟩, if_pos ⟨Nat.le_refl _, by omega, h2⟩]; simp
      · rw [if_neg (by omega), if_neg (by omega)]
    · by_cases h2 : i + 1 ≤ j ∧ j < i + 1 + ys.length ∧ j < xs.length
      · rw [if_pos h2, if_pos (by omega)]
        have e : j - i = (j - (i + 1)) + 1 := by omega
        rw [e]; rfl
      · rw [if_neg h2, if_neg (by omega), if_neg (by omega)]
theorem getD_zeros (n j : Nat) : (List.replicate n (0 : Int)).getD j 0 = 0 := by
  rw [List.getD_eq_getElem?_getD, List.getElem?_replicate]
  split <;> rfl
theorem fresh_len (xs : List Int) (n mk : Nat) : (S10.fresh xs n mk).length = xs.length := by unfold S10.fresh; rw [List.length_set, setMany_len]
theorem fresh_getD {xs : List Int} {i : Nat} (mk : Nat) (hi : 16 * i + 16 ≤ xs.length) (j : Nat) : (S10.fresh xs i mk).getD j 0 = if j = 16 * i then (mk : Int) else if 16 * i < j ∧ j < 16 * i + 16 then 0 else xs.getD j 0 := by
  unfold S10.fresh
  rw [getD_set0, setMany_len, getD_setMany, getD_zeros, List.length_replicate]
  by_cases h1 : j = 16 * i
  · subst h1
    rw [if_pos ⟨rfl, by omega⟩, if_pos rfl]
  · rw [if_neg (fun h => h1 h.1.symm), if_neg h1]
    by_cases h2 : 16 * i < j ∧ j < 16 * i + 16
    · rw [if_pos (by omega), if_pos h2]
    · rw [if_neg (by omega), if_neg h2]

/-- A correct table of 2^n slots. -/
structure Good (n : Nat) (xs : List Int) : Prop where
  le : n ≤ 16
  len : xs.length = 16 * 2 ^ n
  ok : OK8 xs
  st : ∀ j, j < xs.length → j % 16 ≠ 0 → xs.getD j 0 < 215
theorem Good.check {n : Nat} {xs : List Int} (h : Good n xs) : S10.check (n : Int) xs = 0 := by
  have hl := h.le
  rw [S10.check_form (by omega) (by rw [Int.toNat_natCast]; exact h.len), Int.toNat_natCast, S10.bad_eq h.len]
  have hb : S10.badP xs (16 * 2 ^ n) = false := by
    unfold S10.badP
    rw [List.any_eq_false]
    intro j hj
    rw [List.mem_range, ← h.len] at hj
    unfold S10.bad2
    by_cases hz : j % 16 = 0
    · simp [hz]
    · have := h.st j hj hz
      rw [decide_eq_false (show ¬ (215 ≤ xs.getD j 0) by omega)]; simp
  rw [hb]; rfl
theorem Good.getD {n : Nat} {xs : List Int} (h : Good n xs) (j : Nat) : 0 ≤ xs.getD j 0 ∧ xs.getD j 0 < 256 := by
  by_cases hj : j < xs.length
  · rw [List.getD_eq_getElem?_getD, List.getElem?_eq_getElem hj]
    exact h.ok _ (List.getElem_mem hj)
  · rw [List.getD_eq_getElem?_getD, List.getElem?_eq_none (by omega)]
    exact ⟨Int.le_refl 0, by decide⟩
theorem Good.set {n : Nat} {xs : List Int} (h : Good n xs) (i : Nat) (v : Int) (hv : 0 ≤ v ∧ v < 256) (hs : i % 16 ≠ 0 → v < 215) : Good n (xs.set i v) := by
  refine ⟨h.le, by rw [List.length_set]; exact h.len, h.ok.set i v hv, fun j hj hz => ?_⟩
  rw [List.length_set] at hj
  rw [getD_set0]
  by_cases e : i = j ∧ i < xs.length
  · rw [if_pos e]; exact hs (by rw [e.1]; exact hz)
  · rw [if_neg e]; exact h.st j hj hz
theorem Good.fresh {n : Nat} {xs : List Int} (h : Good n xs) {i : Nat} (hi : i < 2 ^ n) {mk : Nat} (hm : mk < 256) : Good n (S10.fresh xs i mk) := by
  have hl := h.len
  refine ⟨h.le, by rw [fresh_len]; exact h.len, OK8.fresh h.ok i mk hm, fun j hj hz => ?_⟩
  rw [fresh_len] at hj
  rw [fresh_getD mk (by omega)]
  rw [if_neg (by omega)]
  split
  · decide
  · exact h.st j hj hz
theorem Good.new {n : Nat} (hn : n ≤ 16) : Good n (List.replicate (16 * 2 ^ n) 0) := by
  refine ⟨hn, by simp, OK8.zeros _, fun j _ _ => ?_⟩
  rw [getD_zeros]; decide

/-- Whether a slot has the check byte. -/
def S10.has (xs : List Int) (mk : Nat) (i : Nat) : Bool := xs.getD (16 * i) 0 == (mk : Int)
theorem S10.find_def (n : Nat) (xs : List Int) (h : Nat) : S10.find n xs h = (S10.places n h).find? (S10.has xs (S10.mark h)) := rfl
theorem find_congr' {p q : Nat → Bool} : ∀ {l : List Nat}, (∀ x ∈ l, p x = q x) → l.find? p = l.find? q
  | [], _ => rfl
  | y :: l, h => by
    rw [List.find?_cons, List.find?_cons, h y List.mem_cons_self, find_congr' (fun x hx => h x (List.mem_cons_of_mem _ hx))]
theorem find_only {p : Nat → Bool} {l : List Nat} {i : Nat} (hi : i ∈ l) (hp : p i = true) (h : ∀ j ∈ l, p j = true → j = i) : l.find? p = some i := by
  cases hf : l.find? p with
  | none => exact absurd hp (by have := List.find?_eq_none.1 hf i hi; simpa using this)
  | some j => rw [h j (List.mem_of_find?_eq_some hf) (List.find?_some hf)]
theorem S10.find_some {n : Nat} {xs : List Int} {h i : Nat} (hf : S10.find n xs h = some i) : i ∈ S10.places n h ∧ xs.getD (16 * i) 0 = (S10.mark h : Int) := by
  rw [S10.find_def] at hf
  refine ⟨List.mem_of_find?_eq_some hf, ?_⟩
  have := List.find?_some hf
  unfold S10.has at this
  simpa using this
theorem S10.find_same {n : Nat} {xs ys : List Int} {h : Nat} (he : ∀ j ∈ S10.places n h, xs.getD (16 * j) 0 = ys.getD (16 * j) 0) : S10.find n xs h = S10.find n ys h := by
  rw [S10.find_def, S10.find_def]
  refine find_congr' fun j hj => ?_
  unfold S10.has
  rw [he j hj]
theorem S10.mem_places {n h i : Nat} (hi : i ∈ S10.places n h) : i < 2 ^ n := S10.plc_lt hi

section
variable {n : Nat} {xs : List Int} (hg : Good n xs) (h : Nat)
include hg
theorem Good.openN_mem : S10.openN (n : Int) xs h ∈ S10.places n h := by
  have e2 : S10.openN (n : Int) xs h = ((S10.find n xs h).getD ((S10.least xs (S10.places n h)).getD 0)) := by
    have := hg.check
    unfold S10.openN
    rw [if_pos this, Int.toNat_natCast]
  rw [e2]
  obtain ⟨i, hle, _, hm⟩ := S10.least_ok xs n h
  rw [hle]
  cases hf : S10.find n xs h with
  | none => exact hm
  | some j => exact (S10.find_some hf).1
theorem Good.openN_lt : S10.openN (n : Int) xs h < 2 ^ n := S10.mem_places (hg.openN_mem h)
theorem Good.openB : S10.openB (n : Int) xs = n := if_pos hg.check
theorem Good.openX_eq : S10.openX (n : Int) xs h = if (S10.find n xs h).isSome then xs else S10.fresh xs (S10.openN (n : Int) xs h) (S10.mark h) := by
  have := hg.check
  unfold S10.openX
  rw [if_pos this, Int.toNat_natCast]
theorem Good.openN_found {i : Nat} (hf : S10.find n xs h = some i) : S10.openN (n : Int) xs h = i := by
  have := hg.check
  unfold S10.openN
  rw [if_pos this, Int.toNat_natCast, hf]
  rfl
theorem Good.openN_least (hf : S10.find n xs h = none) : S10.least xs (S10.places n h) = some (S10.openN (n : Int) xs h) := by
  have := hg.check
  obtain ⟨i, hle, _, hm⟩ := S10.least_ok xs n h
  unfold S10.openN
  rw [if_pos this, Int.toNat_natCast, hf, hle]
  rfl
theorem Good.openX (hh : h < 4294967296) : Good n (S10.openX (n : Int) xs h) := by
  rw [hg.openX_eq h]
  split
  · exact hg
  · exact hg.fresh (hg.openN_lt h) (S10.mark_lt hh)
/-- What opening leaves outside of its slot. -/
theorem Good.openX_out (j : Nat) (hj : j < 16 * S10.openN (n : Int) xs h ∨ 16 * S10.openN (n : Int) xs h + 16 ≤ j) : (S10.openX (n : Int) xs h).getD j 0 = xs.getD j 0 := by
  have hlt := hg.openN_lt h
  have hl := hg.len
  rw [hg.openX_eq h]
  split
  · rfl
  · rw [fresh_getD _ (by omega), if_neg (by omega), if_neg (by omega)]
/-- The check byte of the slot that was opened. -/
theorem Good.openX_mark : (S10.openX (n : Int) xs h).getD (16 * S10.openN (n : Int) xs h) 0 = (S10.mark h : Int) := by
  have hlt := hg.openN_lt h
  have hl := hg.len
  rw [hg.openX_eq h]
  cases hf : S10.find n xs h with
  | some i =>
    rw [hg.openN_found h hf]
    simp only [Option.isSome_some, if_true]
    exact (S10.find_some hf).2
  | none =>
    simp only [Option.isSome_none, Bool.false_eq_true, if_false]
    rw [fresh_getD _ (by omega), if_pos rfl]
/-- It is found then. -/
theorem Good.find_open : S10.find n (S10.openX (n : Int) xs h) h = some (S10.openN (n : Int) xs h) := by
  have hlt := hg.openN_lt h
  have hl := hg.len
  cases hf : S10.find n xs h with
  | some i =>
    rw [hg.openX_eq h, hf, hg.openN_found h hf]
    exact hf
  | none =>
    rw [S10.find_def]
    refine find_only (hg.openN_mem h) ?_ (fun j hj hp => ?_)
    · unfold S10.has
      rw [hg.openX_mark h]
      simp
    · by_cases e : j = S10.openN (n : Int) xs h
      · exact e
      · exfalso
        unfold S10.has at hp
        rw [hg.openX_out h (16 * j) (by omega)] at hp
        have := List.find?_eq_none.1 (by rw [← S10.find_def]; exact hf) j hj
        exact this hp
end
end Go.Proofs.Ytgbjckjfjoiilaa
