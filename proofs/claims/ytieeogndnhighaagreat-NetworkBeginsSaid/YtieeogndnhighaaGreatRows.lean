/-
  No cell of these rows narrows 'for every input' (looked for: loops, veiled, ifaces, maps, wideKeys, modest, calm, conditions, laid).
  DERIVED. THE GIVEN ROWS OF THIS SEAT. 9 by the template 'for every input the law returns true; each argument reads behind the call as it read before'; 0 by the template 'total and deterministic' (their statements: YtieeogndnhighaaGreatTotals.lean).
  GIVEN WITH THE SEED: the statements are not yours to turn. If you find one false, say at which input.
  Laid BY PROGRAM, IN A SANDBOX (cutbox-rows.mjs): the forced cells as the released guide's own fill.sh prints them over the translation 89e6c47528558751… (all of the seat's roots in one cut). By AI agents, Wed Nov 11 2026. No macro, syntax, notation, axiom, sorry.
-/
import Derived.Test.YtieeogndnhighaaGreatChecked
import GoSem.Claim
import GoSem.ClaimJoined
import GoSem.ClaimMapViews
import Derived.JoinedTies
import Derived.KernelRfl
namespace Go.Proofs.YtieeogndnhighaaGreat
/- THE CELL 'sum', in the pinned program and in every row, IS THE sha256 OF THE DUMP (.gsa) THAT YtieeogndnhighaaGreatProg.lean LOADS. Nothing in Lean hashes anything: it is a label: what it is worth is what the hold of that sum in a sandbox is worth. -/
noncomputable def Tryz.pinned : Pinned := { name := "ytieeogndnhighaagreat", sum := "89e6c47528558751bc81ba738a0195847a7c44ca2d89342c8db52a90bc4a19f3", checked := Tryz.checked }
namespace Rows
def none {H : Type} : Left H := { results := [], args := [] }

/-- 'compactorlaw14.NetworkBegins': WHATEVER THE INPUT: true; the input reads as it did. -/
def networkBeginsSpec : ChangeSpec := { name := "networkBegins", fn := fun _ => fun
  | [d1, d2] => { results := [.lit (.bool true)], args := [d1, d2] }
  | _ => none }
def networkBeginsRow : OpenClaim := { program := "ytieeogndnhighaagreat", sum := "89e6c47528558751bc81ba738a0195847a7c44ca2d89342c8db52a90bc4a19f3", func := "compactor/compactorlaw14.NetworkBegins", spec := "networkBegins", unfollowed := true, recurses := true, apart := false }
def NetworkBeginsSaid : Prop := networkBeginsRow.holds Tryz.pinned (OpenSpec.ofChange networkBeginsSpec)

/-- ITS FALSE NEIGHBOUR: 'it returns false'. Refute it at one input. -/
def networkBeginsWrong : ChangeSpec := { name := "networkBegins", fn := fun _ => fun
  | [d1, d2] => { results := [.lit (.bool false)], args := [d1, d2] }
  | _ => none }
def NetworkBeginsWrongFalsely : Prop := networkBeginsRow.holds Tryz.pinned (OpenSpec.ofChange networkBeginsWrong)

/-- 'compactorlaw14.NetworkPredicts': WHATEVER THE INPUT: true; the input reads as it did. -/
def networkPredictsSpec : ChangeSpec := { name := "networkPredicts", fn := fun _ => fun
  | [d] => { results := [.lit (.bool true)], args := [d] }
  | _ => none }
def networkPredictsRow : OpenClaim := { program := "ytieeogndnhighaagreat", sum := "89e6c47528558751bc81ba738a0195847a7c44ca2d89342c8db52a90bc4a19f3", func := "compactor/compactorlaw14.NetworkPredicts", spec := "networkPredicts", unfollowed := true, recurses := true, apart := false }
def NetworkPredictsSaid : Prop := networkPredictsRow.holds Tryz.pinned (OpenSpec.ofChange networkPredictsSpec)

/-- ITS FALSE NEIGHBOUR: 'it returns false'. Refute it at one input. -/
def networkPredictsWrong : ChangeSpec := { name := "networkPredicts", fn := fun _ => fun
  | [d] => { results := [.lit (.bool false)], args := [d] }
  | _ => none }
def NetworkPredictsWrongFalsely : Prop := networkPredictsRow.holds Tryz.pinned (OpenSpec.ofChange networkPredictsWrong)

/-- 'compactorlaw14.NetworkLearns': WHATEVER THE INPUT: true; the input reads as it did. -/
def networkLearnsSpec : ChangeSpec := { name := "networkLearns", fn := fun _ => fun
  | [d1, d2] => { results := [.lit (.bool true)], args := [d1, d2] }
  | _ => none }
def networkLearnsRow : OpenClaim := { program := "ytieeogndnhighaagreat", sum := "89e6c47528558751bc81ba738a0195847a7c44ca2d89342c8db52a90bc4a19f3", func := "compactor/compactorlaw14.NetworkLearns", spec := "networkLearns", unfollowed := true, recurses := true, apart := false }
def NetworkLearnsSaid : Prop := networkLearnsRow.holds Tryz.pinned (OpenSpec.ofChange networkLearnsSpec)

/-- ITS FALSE NEIGHBOUR: 'it returns false'. Refute it at one input. -/
def networkLearnsWrong : ChangeSpec := { name := "networkLearns", fn := fun _ => fun
  | [d1, d2] => { results := [.lit (.bool false)], args := [d1, d2] }
  | _ => none }
def NetworkLearnsWrongFalsely : Prop := networkLearnsRow.holds Tryz.pinned (OpenSpec.ofChange networkLearnsWrong)

/-- 'compactorlaw14.NetworkConstants': WHATEVER THE INPUT: true; the input reads as it did. -/
def networkConstantsSpec : ChangeSpec := { name := "networkConstants", fn := fun _ => fun
  | [d1, d2, d3] => { results := [.lit (.bool true)], args := [d1, d2, d3] }
  | _ => none }
def networkConstantsRow : OpenClaim := { program := "ytieeogndnhighaagreat", sum := "89e6c47528558751bc81ba738a0195847a7c44ca2d89342c8db52a90bc4a19f3", func := "compactor/compactorlaw14.NetworkConstants", spec := "networkConstants", unfollowed := true, recurses := true, apart := false }
def NetworkConstantsSaid : Prop := networkConstantsRow.holds Tryz.pinned (OpenSpec.ofChange networkConstantsSpec)

/-- ITS FALSE NEIGHBOUR: 'it returns false'. Refute it at one input. -/
def networkConstantsWrong : ChangeSpec := { name := "networkConstants", fn := fun _ => fun
  | [d1, d2, d3] => { results := [.lit (.bool false)], args := [d1, d2, d3] }
  | _ => none }
def NetworkConstantsWrongFalsely : Prop := networkConstantsRow.holds Tryz.pinned (OpenSpec.ofChange networkConstantsWrong)

/-- 'compactorlaw14.NetworkSets': WHATEVER THE INPUT: true; the input reads as it did. -/
def networkSetsSpec : ChangeSpec := { name := "networkSets", fn := fun _ => fun
  | [d1, d2] => { results := [.lit (.bool true)], args := [d1, d2] }
  | _ => none }
def networkSetsRow : OpenClaim := { program := "ytieeogndnhighaagreat", sum := "89e6c47528558751bc81ba738a0195847a7c44ca2d89342c8db52a90bc4a19f3", func := "compactor/compactorlaw14.NetworkSets", spec := "networkSets", unfollowed := true, recurses := true, apart := false }
def NetworkSetsSaid : Prop := networkSetsRow.holds Tryz.pinned (OpenSpec.ofChange networkSetsSpec)

/-- ITS FALSE NEIGHBOUR: 'it returns false'. Refute it at one input. -/
def networkSetsWrong : ChangeSpec := { name := "networkSets", fn := fun _ => fun
  | [d1, d2] => { results := [.lit (.bool false)], args := [d1, d2] }
  | _ => none }
def NetworkSetsWrongFalsely : Prop := networkSetsRow.holds Tryz.pinned (OpenSpec.ofChange networkSetsWrong)

/-- 'compactorlaw14.NetworkRemains': WHATEVER THE INPUT: true; the input reads as it did. -/
def networkRemainsSpec : ChangeSpec := { name := "networkRemains", fn := fun _ => fun
  | [d1, d2] => { results := [.lit (.bool true)], args := [d1, d2] }
  | _ => none }
def networkRemainsRow : OpenClaim := { program := "ytieeogndnhighaagreat", sum := "89e6c47528558751bc81ba738a0195847a7c44ca2d89342c8db52a90bc4a19f3", func := "compactor/compactorlaw14.NetworkRemains", spec := "networkRemains", unfollowed := true, recurses := true, apart := false }
def NetworkRemainsSaid : Prop := networkRemainsRow.holds Tryz.pinned (OpenSpec.ofChange networkRemainsSpec)

/-- ITS FALSE NEIGHBOUR: 'it returns false'. Refute it at one input. -/
def networkRemainsWrong : ChangeSpec := { name := "networkRemains", fn := fun _ => fun
  | [d1, d2] => { results := [.lit (.bool false)], args := [d1, d2] }
  | _ => none }
def NetworkRemainsWrongFalsely : Prop := networkRemainsRow.holds Tryz.pinned (OpenSpec.ofChange networkRemainsWrong)

/-- 'compactorlaw14.NetworkConfirms': WHATEVER THE INPUT: true; the input reads as it did. -/
def networkConfirmsSpec : ChangeSpec := { name := "networkConfirms", fn := fun _ => fun
  | [d1, d2, d3] => { results := [.lit (.bool true)], args := [d1, d2, d3] }
  | _ => none }
def networkConfirmsRow : OpenClaim := { program := "ytieeogndnhighaagreat", sum := "89e6c47528558751bc81ba738a0195847a7c44ca2d89342c8db52a90bc4a19f3", func := "compactor/compactorlaw14.NetworkConfirms", spec := "networkConfirms", unfollowed := true, recurses := true, apart := false }
def NetworkConfirmsSaid : Prop := networkConfirmsRow.holds Tryz.pinned (OpenSpec.ofChange networkConfirmsSpec)

/-- ITS FALSE NEIGHBOUR: 'it returns false'. Refute it at one input. -/
def networkConfirmsWrong : ChangeSpec := { name := "networkConfirms", fn := fun _ => fun
  | [d1, d2, d3] => { results := [.lit (.bool false)], args := [d1, d2, d3] }
  | _ => none }
def NetworkConfirmsWrongFalsely : Prop := networkConfirmsRow.holds Tryz.pinned (OpenSpec.ofChange networkConfirmsWrong)

/-- 'compactorlaw14.NetworkChecks': WHATEVER THE INPUT: true; the input reads as it did. -/
def networkChecksSpec : ChangeSpec := { name := "networkChecks", fn := fun _ => fun
  | [d] => { results := [.lit (.bool true)], args := [d] }
  | _ => none }
def networkChecksRow : OpenClaim := { program := "ytieeogndnhighaagreat", sum := "89e6c47528558751bc81ba738a0195847a7c44ca2d89342c8db52a90bc4a19f3", func := "compactor/compactorlaw14.NetworkChecks", spec := "networkChecks", unfollowed := true, recurses := true, apart := false }
def NetworkChecksSaid : Prop := networkChecksRow.holds Tryz.pinned (OpenSpec.ofChange networkChecksSpec)

/-- ITS FALSE NEIGHBOUR: 'it returns false'. Refute it at one input. -/
def networkChecksWrong : ChangeSpec := { name := "networkChecks", fn := fun _ => fun
  | [d] => { results := [.lit (.bool false)], args := [d] }
  | _ => none }
def NetworkChecksWrongFalsely : Prop := networkChecksRow.holds Tryz.pinned (OpenSpec.ofChange networkChecksWrong)

/-- 'compactorlaw14.NetworkBegun': WHATEVER THE INPUT: true; the input reads as it did. -/
def networkBegunSpec : ChangeSpec := { name := "networkBegun", fn := fun _ => fun
  | [d1, d2, d3] => { results := [.lit (.bool true)], args := [d1, d2, d3] }
  | _ => none }
def networkBegunRow : OpenClaim := { program := "ytieeogndnhighaagreat", sum := "89e6c47528558751bc81ba738a0195847a7c44ca2d89342c8db52a90bc4a19f3", func := "compactor/compactorlaw14.NetworkBegun", spec := "networkBegun", unfollowed := true, recurses := true, apart := false }
def NetworkBegunSaid : Prop := networkBegunRow.holds Tryz.pinned (OpenSpec.ofChange networkBegunSpec)

/-- ITS FALSE NEIGHBOUR: 'it returns false'. Refute it at one input. -/
def networkBegunWrong : ChangeSpec := { name := "networkBegun", fn := fun _ => fun
  | [d1, d2, d3] => { results := [.lit (.bool false)], args := [d1, d2, d3] }
  | _ => none }
def NetworkBegunWrongFalsely : Prop := networkBegunRow.holds Tryz.pinned (OpenSpec.ofChange networkBegunWrong)

/- THE SECOND FORM. 'bulk': how many values and letters a reading holds, each counted each time it is reached (what is shared counts as often as it is met; a slice's spare places count too). A statement '..UptoSaid' is the law's where the arguments, and the package variables that the reading takes, are together of bulk at most 1048576: NARROWER than '..Said'. Prove '..Said' where nothing that the law and all that it calls make is longer than what came in: it says more and counts as full. Else prove '..UptoSaid'. A law counts once. -/
mutual
def uptoBulk {H : Type} : DataW H → Nat
  | .lit (.string bytes) => bytes.length + 1
  | .lit _ => 1
  | .nil => 1
  | .ptr d => uptoBulk d + 1
  | .slice elems spare => uptoBulkAll elems + uptoBulkAll spare + 1
  | .agg parts => uptoBulkAll parts + 1
  | .iface _ d => uptoBulk d + 1
  | .map entries => uptoBulkEntries entries + 1
  | .held _ => 1
def uptoBulkAll {H : Type} : List (DataW H) → Nat
  | [] => 0
  | d :: r => uptoBulk d + uptoBulkAll r
def uptoBulkEntries {H : Type} : List (Lit × DataW H) → Nat
  | [] => 0
  | x :: r => uptoBulkEntry x + uptoBulkEntries r
def uptoBulkEntry {H : Type} : Lit × DataW H → Nat
  | (.string bytes, d) => bytes.length + uptoBulk d + 1
  | (_, d) => uptoBulk d + 1
 end
def uptoSmall : (H : Type) → List (DataW H) → Bool := fun _ ds => decide (uptoBulkAll ds ≤ 1048576)
def OpenSpec.upto (s : _root_.Go.ChangeSpec) : _root_.Go.OpenSpec := { _root_.Go.OpenSpec.ofChange s with cond := some uptoSmall }

/-- 'compactorlaw14.NetworkBegins', WHERE WHAT IT READS IS OF BULK AT MOST 1048576: true; the input reads as it did. -/
def networkBeginsUptoRow : OpenClaim := { program := "ytieeogndnhighaagreat", sum := "89e6c47528558751bc81ba738a0195847a7c44ca2d89342c8db52a90bc4a19f3", func := "compactor/compactorlaw14.NetworkBegins", spec := "networkBegins", unfollowed := true, recurses := true, apart := false, narrowed := true }
def NetworkBeginsUptoSaid : Prop := networkBeginsUptoRow.holds Tryz.pinned (OpenSpec.upto networkBeginsSpec)

/-- 'compactorlaw14.NetworkPredicts', WHERE WHAT IT READS IS OF BULK AT MOST 1048576: true; the input reads as it did. -/
def networkPredictsUptoRow : OpenClaim := { program := "ytieeogndnhighaagreat", sum := "89e6c47528558751bc81ba738a0195847a7c44ca2d89342c8db52a90bc4a19f3", func := "compactor/compactorlaw14.NetworkPredicts", spec := "networkPredicts", unfollowed := true, recurses := true, apart := false, narrowed := true }
def NetworkPredictsUptoSaid : Prop := networkPredictsUptoRow.holds Tryz.pinned (OpenSpec.upto networkPredictsSpec)

/-- 'compactorlaw14.NetworkLearns', WHERE WHAT IT READS IS OF BULK AT MOST 1048576: true; the input reads as it did. -/
def networkLearnsUptoRow : OpenClaim := { program := "ytieeogndnhighaagreat", sum := "89e6c47528558751bc81ba738a0195847a7c44ca2d89342c8db52a90bc4a19f3", func := "compactor/compactorlaw14.NetworkLearns", spec := "networkLearns", unfollowed := true, recurses := true, apart := false, narrowed := true }
def NetworkLearnsUptoSaid : Prop := networkLearnsUptoRow.holds Tryz.pinned (OpenSpec.upto networkLearnsSpec)

/-- 'compactorlaw14.NetworkConstants', WHERE WHAT IT READS IS OF BULK AT MOST 1048576: true; the input reads as it did. -/
def networkConstantsUptoRow : OpenClaim := { program := "ytieeogndnhighaagreat", sum := "89e6c47528558751bc81ba738a0195847a7c44ca2d89342c8db52a90bc4a19f3", func := "compactor/compactorlaw14.NetworkConstants", spec := "networkConstants", unfollowed := true, recurses := true, apart := false, narrowed := true }
def NetworkConstantsUptoSaid : Prop := networkConstantsUptoRow.holds Tryz.pinned (OpenSpec.upto networkConstantsSpec)

/-- 'compactorlaw14.NetworkSets', WHERE WHAT IT READS IS OF BULK AT MOST 1048576: true; the input reads as it did. -/
def networkSetsUptoRow : OpenClaim := { program := "ytieeogndnhighaagreat", sum := "89e6c47528558751bc81ba738a0195847a7c44ca2d89342c8db52a90bc4a19f3", func := "compactor/compactorlaw14.NetworkSets", spec := "networkSets", unfollowed := true, recurses := true, apart := false, narrowed := true }
def NetworkSetsUptoSaid : Prop := networkSetsUptoRow.holds Tryz.pinned (OpenSpec.upto networkSetsSpec)

/-- 'compactorlaw14.NetworkRemains', WHERE WHAT IT READS IS OF BULK AT MOST 1048576: true; the input reads as it did. -/
def networkRemainsUptoRow : OpenClaim := { program := "ytieeogndnhighaagreat", sum := "89e6c47528558751bc81ba738a0195847a7c44ca2d89342c8db52a90bc4a19f3", func := "compactor/compactorlaw14.NetworkRemains", spec := "networkRemains", unfollowed := true, recurses := true, apart := false, narrowed := true }
def NetworkRemainsUptoSaid : Prop := networkRemainsUptoRow.holds Tryz.pinned (OpenSpec.upto networkRemainsSpec)

/-- 'compactorlaw14.NetworkConfirms', WHERE WHAT IT READS IS OF BULK AT MOST 1048576: true; the input reads as it did. -/
def networkConfirmsUptoRow : OpenClaim := { program := "ytieeogndnhighaagreat", sum := "89e6c47528558751bc81ba738a0195847a7c44ca2d89342c8db52a90bc4a19f3", func := "compactor/compactorlaw14.NetworkConfirms", spec := "networkConfirms", unfollowed := true, recurses := true, apart := false, narrowed := true }
def NetworkConfirmsUptoSaid : Prop := networkConfirmsUptoRow.holds Tryz.pinned (OpenSpec.upto networkConfirmsSpec)

/-- 'compactorlaw14.NetworkChecks', WHERE WHAT IT READS IS OF BULK AT MOST 1048576: true; the input reads as it did. -/
def networkChecksUptoRow : OpenClaim := { program := "ytieeogndnhighaagreat", sum := "89e6c47528558751bc81ba738a0195847a7c44ca2d89342c8db52a90bc4a19f3", func := "compactor/compactorlaw14.NetworkChecks", spec := "networkChecks", unfollowed := true, recurses := true, apart := false, narrowed := true }
def NetworkChecksUptoSaid : Prop := networkChecksUptoRow.holds Tryz.pinned (OpenSpec.upto networkChecksSpec)

/-- 'compactorlaw14.NetworkBegun', WHERE WHAT IT READS IS OF BULK AT MOST 1048576: true; the input reads as it did. -/
def networkBegunUptoRow : OpenClaim := { program := "ytieeogndnhighaagreat", sum := "89e6c47528558751bc81ba738a0195847a7c44ca2d89342c8db52a90bc4a19f3", func := "compactor/compactorlaw14.NetworkBegun", spec := "networkBegun", unfollowed := true, recurses := true, apart := false, narrowed := true }
def NetworkBegunUptoSaid : Prop := networkBegunUptoRow.holds Tryz.pinned (OpenSpec.upto networkBegunSpec)

end Rows
end Go.Proofs.YtieeogndnhighaaGreat
