/- The plain law of layer 9: histories. No program in sight. -/
set_option linter.unusedSimpArgs false
set_option linter.unusedVariables false
set_option linter.unusedSectionVars false
namespace Go.Proofs.Ytgbjckjfjoiilaa

/-- The bound of the greater number beside the smaller. -/
def S09.bound (less other : Int) : Int := if less = 0 then 30 else if less = 1 then 20 else if less = 2 then 12 else if less = 3 then 8 else if less = 4 then 6 else if less = 5 then 5 else other
def S09.allowed (z o : Int) : Bool := decide (max z o ≤ S09.bound (min z o) (-1))
def S09.fade (n : Int) : Int := if 2 < n then 2 + (n - 2).tdiv 3 else n
def S09.rallowed (z o : Int) : Bool := decide (0 ≤ z ∧ 0 ≤ o ∧ min z o ≤ 5 ∧ max z o ≤ S09.bound (min z o) 0)
def S09.is (z o last : Int) : Bool := S09.rallowed z o && (if z + o = 0 then decide (last = 0) else (decide (last = 0) && decide (0 < z)) || (decide (last = 1) && decide (0 < o)))

/-! The places: t bits, o ones, the last l. -/
def S09.ok (t o l : Nat) : Bool := S09.is ((t : Int) - o) o l
def S09.cL (t o base : Nat) : Nat → Nat
  | 0 => base
  | l + 1 => S09.cL t o base l + (if S09.ok t o l then 1 else 0)
def S09.cO (t base : Nat) : Nat → Nat
  | 0 => base
  | o + 1 => S09.cL t o (S09.cO t base o) 2
def S09.cT : Nat → Nat
  | 0 => 0
  | t + 1 => S09.cO t (S09.cT t) (t + 1)
/-- How many states lie before a place. -/
def S09.cnt (t o l : Nat) : Nat := S09.cL t o (S09.cO t (S09.cT t) o) l
def S09.places : List (Nat × Nat × Nat) :=
  (List.range 31).flatMap fun t => (List.range (t + 1)).flatMap fun o => (List.range 2).filterMap fun l => if S09.ok t o l then some (t, o, l) else none
def S09.place (s : Nat) : Nat × Nat × Nat := S09.places.getD s (0, 0, 0)

/-- What is found for a state. -/
def S09.found (s : Int) : Bool := decide (0 ≤ s ∧ s < 215)
def S09.hz (s : Int) : Int := if S09.found s then ((S09.place s.toNat).1 : Int) - (S09.place s.toNat).2.1 else 0
def S09.ho (s : Int) : Int := if S09.found s then (S09.place s.toNat).2.1 else 0
def S09.hl (s : Int) : Int := if S09.found s then (S09.place s.toNat).2.2 else 0
/-- The state of a history. -/
def S09.idx (z o l : Int) : Int := if S09.is z o l then S09.cnt (z + o).toNat o.toNat l.toNat else 0

/-! The step. -/
def S09.z1 (z o b : Int) : Int := if b = 0 then z + 1 else S09.fade z
def S09.o1 (z o b : Int) : Int := if b = 0 then S09.fade o else o + 1
def S09.lim (z o : Int) : Int := S09.bound (min z o) (-1)
def S09.z2 (z o b : Int) : Int := min (S09.z1 z o b) (S09.lim (S09.z1 z o b) (S09.o1 z o b))
def S09.o2 (z o b : Int) : Int := min (S09.o1 z o b) (S09.lim (S09.z1 z o b) (S09.o1 z o b))
def S09.next (s b : Int) : Int := S09.idx (S09.z2 (S09.hz s) (S09.ho s) b) (S09.o2 (S09.hz s) (S09.ho s) b) b

/-! The finite facts. -/
def S09.allPlaces (p : Nat → Nat → Nat → Bool) : Bool := (List.range 31).all fun t => (List.range (t + 1)).all fun o => p t o 0 && p t o 1
theorem S09.allPlaces_spec {p : Nat → Nat → Nat → Bool} (h : S09.allPlaces p = true) {t o l : Nat} (ht : t ≤ 30) (ho : o ≤ t) (hl : l < 2) : p t o l = true := by
  simp only [S09.allPlaces, List.all_eq_true, List.mem_range, Bool.and_eq_true] at h
  have := h t (by omega) o (by omega)
  rcases (show l = 0 ∨ l = 1 by omega) with rfl | rfl
  · exact this.1
  · exact this.2
theorem S09.places_at : S09.allPlaces (fun t o l => !S09.ok t o l || (decide (S09.cnt t o l < 215) && decide (S09.place (S09.cnt t o l) = (t, o, l)))) = true := by decide +kernel
theorem S09.places_len : S09.places.length = 215 := by decide +kernel
theorem S09.cT_all : S09.cT 31 = 215 := by decide +kernel
theorem S09.at_place {t o l : Nat} (ht : t ≤ 30) (ho : o ≤ t) (hl : l < 2) (h : S09.ok t o l = true) : S09.cnt t o l < 215 ∧ S09.place (S09.cnt t o l) = (t, o, l) := by
  have := S09.allPlaces_spec S09.places_at ht ho hl
  simpa [h] using this
/-- What holds at each state, with both bits. -/
def S09.allStates (p : Nat → Bool) : Bool := (List.range 215).all p
theorem S09.allStates_spec {p : Nat → Bool} (h : S09.allStates p = true) {s : Nat} (hs : s < 215) : p s = true := by
  simp only [S09.allStates, List.all_eq_true, List.mem_range] at h
  exact h s hs
theorem S09.state_place : S09.allStates (fun s => decide ((S09.place s).1 ≤ 30) && decide ((S09.place s).2.1 ≤ (S09.place s).1) && decide ((S09.place s).2.2 < 2) && S09.ok (S09.place s).1 (S09.place s).2.1 (S09.place s).2.2 && decide (S09.cnt (S09.place s).1 (S09.place s).2.1 (S09.place s).2.2 = s)) = true := by decide +kernel
def S09.nextOk (s : Nat) (b : Int) : Bool := S09.is (S09.z2 (S09.hz s) (S09.ho s) b) (S09.o2 (S09.hz s) (S09.ho s) b) b
theorem S09.next_is0 : S09.allStates (fun s => S09.nextOk s 0) = true := by decide +kernel
theorem S09.next_is1 : S09.allStates (fun s => S09.nextOk s 1) = true := by decide +kernel
end Go.Proofs.Ytgbjckjfjoiilaa
