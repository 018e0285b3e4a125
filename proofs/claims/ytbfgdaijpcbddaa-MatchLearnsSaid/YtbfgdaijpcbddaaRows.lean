/-
  No cell of these rows narrows 'for every input' (looked for: loops, veiled, ifaces, maps, wideKeys, modest, calm, conditions, laid).
  DERIVED. THE GIVEN ROWS OF THIS SEAT. 8 by the template 'for every input the law returns true; each argument reads behind the call as it read before'; 0 by the template 'total and deterministic' (their statements: YtbfgdaijpcbddaaTotals.lean).
  GIVEN WITH THE SEED: the statements are not yours to turn. If you find one false, say at which input.
  Laid BY PROGRAM, IN A SANDBOX (cutbox-rows.mjs): the forced cells as the released guide's own fill.sh prints them over the translation a55ab3a27b145d0f… (all of the seat's roots in one cut). By AI agents, Wed Nov 11 2026. No macro, syntax, notation, axiom, sorry.
-/
import Derived.Test.YtbfgdaijpcbddaaChecked
import GoSem.Claim
import GoSem.ClaimJoined
import GoSem.ClaimMapViews
import Derived.JoinedTies
import Derived.KernelRfl
namespace Go.Proofs.Ytbfgdaijpcbddaa
/- THE CELL 'sum', in the pinned program and in every row, IS THE sha256 OF THE DUMP (.gsa) THAT YtbfgdaijpcbddaaProg.lean LOADS. Nothing in Lean hashes anything: it is a label: what it is worth is what the hold of that sum in a sandbox is worth. -/
noncomputable def Try.pinned : Pinned := { name := "ytbfgdaijpcbddaa", sum := "a55ab3a27b145d0fbe1f92e43c106ff9061f45da0eef610d50a3a8a11f7f31ba", checked := Try.checked }
namespace Rows
def none {H : Type} : Left H := { results := [], args := [] }

/-- 'compactortop.TopMatchesFollow': WHATEVER THE INPUT: true; the input reads as it did. -/
def topMatchesFollowSpec : ChangeSpec := { name := "topMatchesFollow", fn := fun _ => fun
  | [d1, d2, d3] => { results := [.lit (.bool true)], args := [d1, d2, d3] }
  | _ => none }
def topMatchesFollowRow : OpenClaim := { program := "ytbfgdaijpcbddaa", sum := "a55ab3a27b145d0fbe1f92e43c106ff9061f45da0eef610d50a3a8a11f7f31ba", func := "compactor/compactortop.TopMatchesFollow", spec := "topMatchesFollow", unfollowed := true, recurses := true, apart := false }
def TopMatchesFollowSaid : Prop := topMatchesFollowRow.holds Try.pinned (OpenSpec.ofChange topMatchesFollowSpec)

/-- ITS FALSE NEIGHBOUR: 'it returns false'. Refute it at one input. -/
def topMatchesFollowWrong : ChangeSpec := { name := "topMatchesFollow", fn := fun _ => fun
  | [d1, d2, d3] => { results := [.lit (.bool false)], args := [d1, d2, d3] }
  | _ => none }
def TopMatchesFollowWrongFalsely : Prop := topMatchesFollowRow.holds Try.pinned (OpenSpec.ofChange topMatchesFollowWrong)

/-- 'compactorlaw12.MatchMakes': WHATEVER THE INPUT: true; the input reads as it did. -/
def matchMakesSpec : ChangeSpec := { name := "matchMakes", fn := fun _ => fun
  | [d1, d2, d3] => { results := [.lit (.bool true)], args := [d1, d2, d3] }
  | _ => none }
def matchMakesRow : OpenClaim := { program := "ytbfgdaijpcbddaa", sum := "a55ab3a27b145d0fbe1f92e43c106ff9061f45da0eef610d50a3a8a11f7f31ba", func := "compactor/compactorlaw12.MatchMakes", spec := "matchMakes", unfollowed := true, recurses := true, apart := false }
def MatchMakesSaid : Prop := matchMakesRow.holds Try.pinned (OpenSpec.ofChange matchMakesSpec)

/-- ITS FALSE NEIGHBOUR: 'it returns false'. Refute it at one input. -/
def matchMakesWrong : ChangeSpec := { name := "matchMakes", fn := fun _ => fun
  | [d1, d2, d3] => { results := [.lit (.bool false)], args := [d1, d2, d3] }
  | _ => none }
def MatchMakesWrongFalsely : Prop := matchMakesRow.holds Try.pinned (OpenSpec.ofChange matchMakesWrong)

/-- 'compactorlaw12.MatchLearns': WHATEVER THE INPUT: true; the input reads as it did. -/
def matchLearnsSpec : ChangeSpec := { name := "matchLearns", fn := fun _ => fun
  | [d1, d2] => { results := [.lit (.bool true)], args := [d1, d2] }
  | _ => none }
def matchLearnsRow : OpenClaim := { program := "ytbfgdaijpcbddaa", sum := "a55ab3a27b145d0fbe1f92e43c106ff9061f45da0eef610d50a3a8a11f7f31ba", func := "compactor/compactorlaw12.MatchLearns", spec := "matchLearns", unfollowed := true, recurses := true, apart := false }
def MatchLearnsSaid : Prop := matchLearnsRow.holds Try.pinned (OpenSpec.ofChange matchLearnsSpec)

/-- ITS FALSE NEIGHBOUR: 'it returns false'. Refute it at one input. -/
def matchLearnsWrong : ChangeSpec := { name := "matchLearns", fn := fun _ => fun
  | [d1, d2] => { results := [.lit (.bool false)], args := [d1, d2] }
  | _ => none }
def MatchLearnsWrongFalsely : Prop := matchLearnsRow.holds Try.pinned (OpenSpec.ofChange matchLearnsWrong)

/-- 'compactorlaw12.MatchLooks': WHATEVER THE INPUT: true; the input reads as it did. -/
def matchLooksSpec : ChangeSpec := { name := "matchLooks", fn := fun _ => fun
  | [d1, d2] => { results := [.lit (.bool true)], args := [d1, d2] }
  | _ => none }
def matchLooksRow : OpenClaim := { program := "ytbfgdaijpcbddaa", sum := "a55ab3a27b145d0fbe1f92e43c106ff9061f45da0eef610d50a3a8a11f7f31ba", func := "compactor/compactorlaw12.MatchLooks", spec := "matchLooks", unfollowed := true, recurses := true, apart := false }
def MatchLooksSaid : Prop := matchLooksRow.holds Try.pinned (OpenSpec.ofChange matchLooksSpec)

/-- ITS FALSE NEIGHBOUR: 'it returns false'. Refute it at one input. -/
def matchLooksWrong : ChangeSpec := { name := "matchLooks", fn := fun _ => fun
  | [d1, d2] => { results := [.lit (.bool false)], args := [d1, d2] }
  | _ => none }
def MatchLooksWrongFalsely : Prop := matchLooksRow.holds Try.pinned (OpenSpec.ofChange matchLooksWrong)

/-- 'compactorlaw12.MatchRepeats': WHATEVER THE INPUT: true; the input reads as it did. -/
def matchRepeatsSpec : ChangeSpec := { name := "matchRepeats", fn := fun _ => fun
  | [d1, d2, d3] => { results := [.lit (.bool true)], args := [d1, d2, d3] }
  | _ => none }
def matchRepeatsRow : OpenClaim := { program := "ytbfgdaijpcbddaa", sum := "a55ab3a27b145d0fbe1f92e43c106ff9061f45da0eef610d50a3a8a11f7f31ba", func := "compactor/compactorlaw12.MatchRepeats", spec := "matchRepeats", unfollowed := true, recurses := true, apart := false }
def MatchRepeatsSaid : Prop := matchRepeatsRow.holds Try.pinned (OpenSpec.ofChange matchRepeatsSpec)

/-- ITS FALSE NEIGHBOUR: 'it returns false'. Refute it at one input. -/
def matchRepeatsWrong : ChangeSpec := { name := "matchRepeats", fn := fun _ => fun
  | [d1, d2, d3] => { results := [.lit (.bool false)], args := [d1, d2, d3] }
  | _ => none }
def MatchRepeatsWrongFalsely : Prop := matchRepeatsRow.holds Try.pinned (OpenSpec.ofChange matchRepeatsWrong)

/-- 'compactorlaw12.MatchExpects': WHATEVER THE INPUT: true; the input reads as it did. -/
def matchExpectsSpec : ChangeSpec := { name := "matchExpects", fn := fun _ => fun
  | [d1, d2, d3] => { results := [.lit (.bool true)], args := [d1, d2, d3] }
  | _ => none }
def matchExpectsRow : OpenClaim := { program := "ytbfgdaijpcbddaa", sum := "a55ab3a27b145d0fbe1f92e43c106ff9061f45da0eef610d50a3a8a11f7f31ba", func := "compactor/compactorlaw12.MatchExpects", spec := "matchExpects", unfollowed := true, recurses := true, apart := false }
def MatchExpectsSaid : Prop := matchExpectsRow.holds Try.pinned (OpenSpec.ofChange matchExpectsSpec)

/-- ITS FALSE NEIGHBOUR: 'it returns false'. Refute it at one input. -/
def matchExpectsWrong : ChangeSpec := { name := "matchExpects", fn := fun _ => fun
  | [d1, d2, d3] => { results := [.lit (.bool false)], args := [d1, d2, d3] }
  | _ => none }
def MatchExpectsWrongFalsely : Prop := matchExpectsRow.holds Try.pinned (OpenSpec.ofChange matchExpectsWrong)

/-- 'compactorlaw12.MatchConstant': WHATEVER THE INPUT: true; the input reads as it did. -/
def matchConstantSpec : ChangeSpec := { name := "matchConstant", fn := fun _ => fun
  | [d1, d2, d3] => { results := [.lit (.bool true)], args := [d1, d2, d3] }
  | _ => none }
def matchConstantRow : OpenClaim := { program := "ytbfgdaijpcbddaa", sum := "a55ab3a27b145d0fbe1f92e43c106ff9061f45da0eef610d50a3a8a11f7f31ba", func := "compactor/compactorlaw12.MatchConstant", spec := "matchConstant", unfollowed := true, recurses := true, apart := false }
def MatchConstantSaid : Prop := matchConstantRow.holds Try.pinned (OpenSpec.ofChange matchConstantSpec)

/-- ITS FALSE NEIGHBOUR: 'it returns false'. Refute it at one input. -/
def matchConstantWrong : ChangeSpec := { name := "matchConstant", fn := fun _ => fun
  | [d1, d2, d3] => { results := [.lit (.bool false)], args := [d1, d2, d3] }
  | _ => none }
def MatchConstantWrongFalsely : Prop := matchConstantRow.holds Try.pinned (OpenSpec.ofChange matchConstantWrong)

/-- 'compactorlaw12.MatchLongest': WHATEVER THE INPUT: true; the input reads as it did. -/
def matchLongestSpec : ChangeSpec := { name := "matchLongest", fn := fun _ => fun
  | [d1, d2] => { results := [.lit (.bool true)], args := [d1, d2] }
  | _ => none }
def matchLongestRow : OpenClaim := { program := "ytbfgdaijpcbddaa", sum := "a55ab3a27b145d0fbe1f92e43c106ff9061f45da0eef610d50a3a8a11f7f31ba", func := "compactor/compactorlaw12.MatchLongest", spec := "matchLongest", unfollowed := true, recurses := true, apart := false }
def MatchLongestSaid : Prop := matchLongestRow.holds Try.pinned (OpenSpec.ofChange matchLongestSpec)

/-- ITS FALSE NEIGHBOUR: 'it returns false'. Refute it at one input. -/
def matchLongestWrong : ChangeSpec := { name := "matchLongest", fn := fun _ => fun
  | [d1, d2] => { results := [.lit (.bool false)], args := [d1, d2] }
  | _ => none }
def MatchLongestWrongFalsely : Prop := matchLongestRow.holds Try.pinned (OpenSpec.ofChange matchLongestWrong)

/- THE SECOND FORM. 'bulk': how many values and letters a reading holds, each counted each time it is reached (what is shared counts as often as it is met; a slice's spare places count too). A statement '..UptoSaid' is the law's where the arguments, and the package variables that the reading takes, are together of bulk at most 1048576: NARROWER than '..Said'. Prove '..Said' where nothing that the law and all that it calls make is longer than what came in: it says more and counts as full. Else prove '..UptoSaid'. A law counts once. -/
mutual
def uptoBulk {H : Type} : DataW H → Nat
  | .lit (.string bytes) => bytes.length + 1
  | .lit _ => 1
  | .nil => 1
  | .ptr d => uptoBulk d + 1
  | .slice elems spare => uptoBulkAll elems + uptoBulkAll spare + 1
  | .agg parts => uptoBulkAll parts + 1
  | .iface _ d => uptoBulk d + 1
  | .map entries => uptoBulkEntries entries + 1
  | .held _ => 1
def uptoBulkAll {H : Type} : List (DataW H) → Nat
  | [] => 0
  | d :: r => uptoBulk d + uptoBulkAll r
def uptoBulkEntries {H : Type} : List (Lit × DataW H) → Nat
  | [] => 0
  | x :: r => uptoBulkEntry x + uptoBulkEntries r
def uptoBulkEntry {H : Type} : Lit × DataW H → Nat
  | (.string bytes, d) => bytes.length + uptoBulk d + 1
  | (_, d) => uptoBulk d + 1
 end
def uptoSmall : (H : Type) → List (DataW H) → Bool := fun _ ds => decide (uptoBulkAll ds ≤ 1048576)
def OpenSpec.upto (s : _root_.Go.ChangeSpec) : _root_.Go.OpenSpec := { _root_.Go.OpenSpec.ofChange s with cond := some uptoSmall }

/-- 'compactortop.TopMatchesFollow', WHERE WHAT IT READS IS OF BULK AT MOST 1048576: true; the input reads as it did. -/
def topMatchesFollowUptoRow : OpenClaim := { program := "ytbfgdaijpcbddaa", sum := "a55ab3a27b145d0fbe1f92e43c106ff9061f45da0eef610d50a3a8a11f7f31ba", func := "compactor/compactortop.TopMatchesFollow", spec := "topMatchesFollow", unfollowed := true, recurses := true, apart := false, narrowed := true }
def TopMatchesFollowUptoSaid : Prop := topMatchesFollowUptoRow.holds Try.pinned (OpenSpec.upto topMatchesFollowSpec)

/-- 'compactorlaw12.MatchMakes', WHERE WHAT IT READS IS OF BULK AT MOST 1048576: true; the input reads as it did. -/
def matchMakesUptoRow : OpenClaim := { program := "ytbfgdaijpcbddaa", sum := "a55ab3a27b145d0fbe1f92e43c106ff9061f45da0eef610d50a3a8a11f7f31ba", func := "compactor/compactorlaw12.MatchMakes", spec := "matchMakes", unfollowed := true, recurses := true, apart := false, narrowed := true }
def MatchMakesUptoSaid : Prop := matchMakesUptoRow.holds Try.pinned (OpenSpec.upto matchMakesSpec)

/-- 'compactorlaw12.MatchLearns', WHERE WHAT IT READS IS OF BULK AT MOST 1048576: true; the input reads as it did. -/
def matchLearnsUptoRow : OpenClaim := { program := "ytbfgdaijpcbddaa", sum := "a55ab3a27b145d0fbe1f92e43c106ff9061f45da0eef610d50a3a8a11f7f31ba", func := "compactor/compactorlaw12.MatchLearns", spec := "matchLearns", unfollowed := true, recurses := true, apart := false, narrowed := true }
def MatchLearnsUptoSaid : Prop := matchLearnsUptoRow.holds Try.pinned (OpenSpec.upto matchLearnsSpec)

/-- 'compactorlaw12.MatchLooks', WHERE WHAT IT READS IS OF BULK AT MOST 1048576: true; the input reads as it did. -/
def matchLooksUptoRow : OpenClaim := { program := "ytbfgdaijpcbddaa", sum := "a55ab3a27b145d0fbe1f92e43c106ff9061f45da0eef610d50a3a8a11f7f31ba", func := "compactor/compactorlaw12.MatchLooks", spec := "matchLooks", unfollowed := true, recurses := true, apart := false, narrowed := true }
def MatchLooksUptoSaid : Prop := matchLooksUptoRow.holds Try.pinned (OpenSpec.upto matchLooksSpec)

/-- 'compactorlaw12.MatchRepeats', WHERE WHAT IT READS IS OF BULK AT MOST 1048576: true; the input reads as it did. -/
def matchRepeatsUptoRow : OpenClaim := { program := "ytbfgdaijpcbddaa", sum := "a55ab3a27b145d0fbe1f92e43c106ff9061f45da0eef610d50a3a8a11f7f31ba", func := "compactor/compactorlaw12.MatchRepeats", spec := "matchRepeats", unfollowed := true, recurses := true, apart := false, narrowed := true }
def MatchRepeatsUptoSaid : Prop := matchRepeatsUptoRow.holds Try.pinned (OpenSpec.upto matchRepeatsSpec)

/-- 'compactorlaw12.MatchExpects', WHERE WHAT IT READS IS OF BULK AT MOST 1048576: true; the input reads as it did. -/
def matchExpectsUptoRow : OpenClaim := { program := "ytbfgdaijpcbddaa", sum := "a55ab3a27b145d0fbe1f92e43c106ff9061f45da0eef610d50a3a8a11f7f31ba", func := "compactor/compactorlaw12.MatchExpects", spec := "matchExpects", unfollowed := true, recurses := true, apart := false, narrowed := true }
def MatchExpectsUptoSaid : Prop := matchExpectsUptoRow.holds Try.pinned (OpenSpec.upto matchExpectsSpec)

/-- 'compactorlaw12.MatchConstant', WHERE WHAT IT READS IS OF BULK AT MOST 1048576: true; the input reads as it did. -/
def matchConstantUptoRow : OpenClaim := { program := "ytbfgdaijpcbddaa", sum := "a55ab3a27b145d0fbe1f92e43c106ff9061f45da0eef610d50a3a8a11f7f31ba", func := "compactor/compactorlaw12.MatchConstant", spec := "matchConstant", unfollowed := true, recurses := true, apart := false, narrowed := true }
def MatchConstantUptoSaid : Prop := matchConstantUptoRow.holds Try.pinned (OpenSpec.upto matchConstantSpec)

/-- 'compactorlaw12.MatchLongest', WHERE WHAT IT READS IS OF BULK AT MOST 1048576: true; the input reads as it did. -/
def matchLongestUptoRow : OpenClaim := { program := "ytbfgdaijpcbddaa", sum := "a55ab3a27b145d0fbe1f92e43c106ff9061f45da0eef610d50a3a8a11f7f31ba", func := "compactor/compactorlaw12.MatchLongest", spec := "matchLongest", unfollowed := true, recurses := true, apart := false, narrowed := true }
def MatchLongestUptoSaid : Prop := matchLongestUptoRow.holds Try.pinned (OpenSpec.upto matchLongestSpec)

end Rows
end Go.Proofs.Ytbfgdaijpcbddaa
