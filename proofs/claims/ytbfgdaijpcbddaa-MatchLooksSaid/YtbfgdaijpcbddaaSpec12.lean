/- Plain functions that say what layer 12 (match) computes. No program, no condition. -/
import Derived.LoadGo2
import Derived.Test.YtbfgdaijpcbddaaSpec08
set_option linter.unusedSimpArgs false
set_option linter.unusedVariables false
set_option linter.unusedSectionVars false
namespace Go.Proofs.Ytbfgdaijpcbddaa.S12

/-- Whether the bytes n places before p and before the end are equal. -/
def eqAt (b : List Int) (p n : Nat) : Bool := b.getD (p - 1 - n) 0 == b.getD (b.length - 1 - n) 0
/-- The length of the repetition at a place. -/
def rep (b : List Int) (p : Nat) : Nat := ((List.range (min 255 p)).takeWhile (eqAt b p)).length

theorem takeWhile_range (f : Nat → Bool) (m k : Nat) (hk : k ≤ m) (h1 : ∀ i, i < k → f i = true) (h2 : k = m ∨ f k = false) : ((List.range m).takeWhile f).length = k := by
  induction m generalizing k f with
  | zero => obtain rfl : k = 0 := by omega
            rfl
  | succ m ih =>
    rw [List.range_succ_eq_map, List.takeWhile_cons]
    cases k with
    | zero => rcases h2 with h2 | h2
              · omega
              · rw [h2]; rfl
    | succ k =>
      rw [h1 0 (by omega)]
      simp only [if_true, List.length_cons, List.takeWhile_map, List.length_map]
      rw [ih (f ∘ Nat.succ) k (by omega) (fun i hi => h1 (i + 1) (by omega)) (by rcases h2 with h2 | h2; exact .inl (by omega); exact .inr h2)]
theorem takeWhile_range_spec (f : Nat → Bool) (m : Nat) : ((List.range m).takeWhile f).length ≤ m ∧ (∀ i, i < ((List.range m).takeWhile f).length → f i = true) ∧ (((List.range m).takeWhile f).length = m ∨ f ((List.range m).takeWhile f).length = false) := by
  have key : ∀ (f : Nat → Bool) (m : Nat), ∃ k, k ≤ m ∧ (∀ i, i < k → f i = true) ∧ (k = m ∨ f k = false) := fun f m => by
    induction m with
    | zero => exact ⟨0, by omega, fun i hi => by omega, .inl rfl⟩
    | succ m ih =>
      obtain ⟨k, h1, h2, h3⟩ := ih
      rcases h3 with h3 | h3
      · subst h3
        cases hf : f k with
        | true => exact ⟨k + 1, by omega, fun i hi => by rcases Nat.lt_succ_iff_lt_or_eq.1 hi with h | rfl; exact h2 i h; exact hf, .inl rfl⟩
        | false => exact ⟨k, by omega, h2, .inr hf⟩
      · exact ⟨k, by omega, h2, .inr h3⟩
  obtain ⟨k, h1, h2, h3⟩ := key f m
  rw [takeWhile_range f m k h1 h2 h3]
  exact ⟨h1, h2, h3⟩

theorem rep_of {b : List Int} {p k : Nat} (hk : k ≤ min 255 p) (h1 : ∀ i, i < k → eqAt b p i = true) (h2 : k = min 255 p ∨ eqAt b p k = false) : rep b p = k := takeWhile_range _ _ _ hk h1 h2
theorem rep_le (b : List Int) (p : Nat) : rep b p ≤ min 255 p := (takeWhile_range_spec _ _).1
theorem rep_eq (b : List Int) (p : Nat) : ∀ i, i < rep b p → eqAt b p i = true := (takeWhile_range_spec _ _).2.1
theorem rep_end (b : List Int) (p : Nat) : rep b p = min 255 p ∨ eqAt b p (rep b p) = false := (takeWhile_range_spec _ _).2.2
theorem le_rep {b : List Int} {p k : Nat} (hk : k ≤ min 255 p) (h1 : ∀ i, i < k → eqAt b p i = true) : k ≤ rep b p := by
  rcases rep_end b p with h | h
  · omega
  · by_cases hlt : rep b p < k
    · rw [h1 _ hlt] at h; cases h
    · omega

/-- The bit that follows those in pt, if these are the first ones of a byte: looked for from the k-th on. -/
def expFrom (x : Nat) (pt : Int) : Nat → Option Nat
  | 0 => none
  | k + 1 => if ((256 + x) / 2 ^ (k + 1) : Nat) = pt then some ((256 + x) / 2 ^ k % 2) else expFrom x pt k
def exp (x : Nat) (pt : Int) : Option Nat := expFrom x pt 8

/-- A model. -/
structure M where
  bits : Int
  least : Int
  heads : List Int
  bytes : List Int
  at_ : Int
  len : Int
  part : Int
  bit : Int
  ctrs : List (Int × Int)

def form (m : M) : Bool := decide (m.heads.length = 2 ^ m.bits.toNat) && decide (m.ctrs.length = 16) && decide (1 ≤ m.part ∧ m.part ≤ 255)
def far (m : M) : Bool := m.heads.any fun h => !decide (0 ≤ h ∧ h ≤ m.bytes.length)
def bad (m : M) : Bool := m.ctrs.any fun c => S08.check c.1 c.2 255 != 0
def matched (m : M) : Bool :=
  if m.len = 0 then decide (m.at_ = 0) && decide (m.bit = 2)
  else decide (1 ≤ m.len ∧ m.len ≤ 255) && decide (m.len ≤ m.at_ ∧ m.at_ ≤ (m.bytes.length : Int) - 1) && decide (m.len ≤ (rep m.bytes m.at_.toNat : Int)) &&
    (match exp (m.bytes.getD m.at_.toNat 0).toNat m.part with | some b => decide ((b : Int) = m.bit) | none => false)
def check (m : M) : Int :=
  if ¬ (1 ≤ m.bits ∧ m.bits ≤ 16) ∨ ¬ (1 ≤ m.least ∧ m.least ≤ 32) then 2
  else if 65536 < m.bytes.length then 5
  else if form m = false then 3
  else if far m = true ∨ bad m = true ∨ matched m = false then 3 else 0
def predP (m : M) : Int :=
  if check m ≠ 0 then 0 else if m.len = 0 then 2048
  else
    let c := m.ctrs.getD (min m.len.toNat 15) (0, 0)
    if m.bit = 0 then 4096 - S08.predict c.1 c.2 else S08.predict c.1 c.2
def predB (m : M) : Bool := decide (check m = 0) && decide (m.len ≠ 0)
end Go.Proofs.Ytbfgdaijpcbddaa.S12
