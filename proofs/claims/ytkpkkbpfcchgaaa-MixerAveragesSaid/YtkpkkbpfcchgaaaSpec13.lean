/- The plain law of layer 13: gated mixers. No program in sight. -/
import Derived.Test.YtkpkkbpfcchgaaaSpec06
set_option linter.unusedSimpArgs false
set_option linter.unusedVariables false
set_option linter.unusedSectionVars false
namespace Go.Proofs.Ytkpkkbpfcchgaaa

def S13.heavy (x : Int) : Bool := decide (x < -1048576) || decide (1048576 < x)
def S13.strong (x : Int) : Bool := decide (x < -3071) || decide (3071 < x)
/-- The error of the sets of weights of a mixer with n inputs. -/
def S13.rows (n : Int) : List (List Int) → Int
  | [] => 0
  | l :: r => if (l.length : Int) ≠ n then 6 else if l.any S13.heavy then 2 else S13.rows n r
/-- The error of a mixer (most: the greatest number of inputs). -/
def S13.check (most n : Int) (L : List (List Int)) : Int := if n < 1 ∨ most < n ∨ L.length < 1 ∨ 65536 < L.length then 6 else S13.rows n L
/-- The error of a mixer, a context and inputs. -/
def S13.usable (most n : Int) (L : List (List Int)) (c : Int) (xs : List Int) : Int :=
  if S13.check most n L ≠ 0 then S13.check most n L else if c < 0 ∨ (L.length : Int) ≤ c then 7 else if (xs.length : Int) ≠ n then 6 else if xs.any S13.strong then 2 else 0
/-- The sum of weights times inputs. -/
def S13.sum : List Int → List Int → Int
  | w :: ws, x :: xs => w * x + S13.sum ws xs
  | _, _ => 0
end Go.Proofs.Ytkpkkbpfcchgaaa
