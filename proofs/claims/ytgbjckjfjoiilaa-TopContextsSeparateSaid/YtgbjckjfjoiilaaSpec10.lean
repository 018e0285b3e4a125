/- Layer 10 (slots) in plain words. No condition. -/
import Derived.Test.YtgbjckjfjoiilaaBase13
set_option linter.unusedSimpArgs false
set_option linter.unusedVariables false
set_option linter.unusedSectionVars false
namespace Go.Proofs.Ytgbjckjfjoiilaa

namespace S10
/-- The first place of a hash in a table of 2^bits slots. -/
def first (bits hash : Nat) : Nat := (hash * 2654435761 % 4294967296) % 2 ^ bits
/-- Those of the first k places that there are. -/
def plc (bits hash k : Nat) : List Nat := ((List.range k).map fun j => first bits hash ^^^ j).filter fun i => decide (i < 2 ^ bits)
def places (bits hash : Nat) : List Nat := plc bits hash 3
def mark (hash : Nat) : Nat := hash / 16777216

theorem plc_succ (bits hash k : Nat) : plc bits hash (k + 1) = if first bits hash ^^^ k < 2 ^ bits then plc bits hash k ++ [first bits hash ^^^ k] else plc bits hash k := by
  unfold plc
  rw [List.range_succ, List.map_append, List.filter_append]
  split <;> simp [*]
theorem plc_len (bits hash k : Nat) : (plc bits hash k).length ≤ k := by
  unfold plc
  exact Nat.le_trans (List.length_filter_le _ _) (by simp)
theorem plc_prefix (bits hash k : Nat) : plc bits hash k <+: plc bits hash (k + 1) := by
  rw [plc_succ]; split
  · exact ⟨_, rfl⟩
  · exact List.prefix_refl _
theorem plc_lt {bits hash k i : Nat} (h : i ∈ plc bits hash k) : i < 2 ^ bits := by
  unfold plc at h
  simpa using (List.mem_filter.1 h).2
theorem first_lt (bits hash : Nat) : first bits hash < 2 ^ bits := Nat.mod_lt _ (Nat.two_pow_pos bits)

/-- A state that there is not. -/
def bad1 (x : Int) : Bool := decide (215 ≤ x)
/-- The states of slot k. -/
def tail (xs : List Int) (k : Nat) : List Int := (xs.drop (16 * k + 1)).take 15
/-- Whether the slots hold states that there are not. -/
def bad (xs : List Int) (m : Nat) : Bool := (List.range m).any fun k => (tail xs k).any bad1
def check (bits : Int) (xs : List Int) : Int := if bits < 0 ∨ 16 < bits then 2 else if xs.length ≠ 16 * 2 ^ bits.toNat then 6 else if bad xs (2 ^ bits.toNat) then 3 else 0
end S10
end Go.Proofs.Ytgbjckjfjoiilaa
