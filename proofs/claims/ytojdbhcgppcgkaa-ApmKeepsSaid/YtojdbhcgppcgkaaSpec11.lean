/- The plain law of layer 11: adaptive probability maps. No program in sight. -/
import Derived.Test.YtojdbhcgppcgkaaSpec06
set_option linter.unusedSimpArgs false
set_option linter.unusedVariables false
set_option linter.unusedSectionVars false
namespace Go.Proofs.Ytojdbhcgppcgkaa

def S11.bad (x : Int) : Bool := decide (x < 0) || decide (65535 < x)
/-- The error of a map. -/
def S11.check (xs : List Int) : Int := if xs.length % 33 ≠ 0 ∨ xs.length < 33 ∨ 2162688 < xs.length then 6 else if xs.any S11.bad then 2 else 0
/-- The error of a map, a context and a probability. -/
def S11.usable (xs : List Int) (c p : Int) : Int := if S11.check xs ≠ 0 then S11.check xs else if c < 0 ∨ (xs.length / 33 : Nat) ≤ c then 7 else if p < 1 ∨ 4095 < p then 2 else 0
/-- Where a probability lies in a row. -/
def S11.x (p : Int) : Int := S06.stretch p + 3072
def S11.at (p : Int) : Nat := ((S06.stretch p + 3072) / 192).toNat
def S11.from (p : Int) : Int := (S06.stretch p + 3072) % 192
def S11.mix (a b f : Int) : Int := (a * (192 - f) + b * f) / 192
def S11.clamp (n : Int) : Int := max 1 (min (n / 16) 4095)
/-- The refined probability. -/
def S11.refine (xs : List Int) (c : Nat) (p : Int) : Int := S11.clamp (S11.mix (xs.getD (33 * c + S11.at p) 0) (xs.getD (33 * c + S11.at p + 1) 0) (S11.from p))
def S11.learn (r bit rate share : Int) : Int := r + ((65535 * bit - r) * rate * share).tdiv 49152
/-- The map that has learned. -/
def S11.update (xs : List Int) (c : Nat) (p bit rate : Int) : List Int :=
  (xs.set (33 * c + S11.at p) (S11.learn (xs.getD (33 * c + S11.at p) 0) bit rate (192 - S11.from p))).set (33 * c + S11.at p + 1) (S11.learn (xs.getD (33 * c + S11.at p + 1) 0) bit rate (S11.from p))
def S11.first : List Int := (List.range 33).map fun (k : Nat) => 16 * S06.squash (192 * (k : Int) - 3072)

theorem S11.x_bounds (p : Int) : 1 ≤ S06.stretch p + 3072 ∧ S06.stretch p + 3072 ≤ 6143 := by have := S06.stretch_bounds p; omega
theorem S11.at_le (p : Int) : S11.at p ≤ 31 := by have := S11.x_bounds p; unfold S11.at; omega
theorem S11.at_int (p : Int) : (S06.stretch p + 3072) / 192 = (S11.at p : Int) := by have := S11.x_bounds p; unfold S11.at; omega
theorem S11.from_bounds (p : Int) : 0 ≤ S11.from p ∧ S11.from p ≤ 191 := by unfold S11.from; omega
end Go.Proofs.Ytojdbhcgppcgkaa
