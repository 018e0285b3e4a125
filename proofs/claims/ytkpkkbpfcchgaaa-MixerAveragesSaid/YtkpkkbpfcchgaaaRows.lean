/-
  No cell of these rows narrows 'for every input' (looked for: loops, veiled, ifaces, maps, wideKeys, modest, calm, conditions, laid).
  DERIVED. THE GIVEN ROWS OF THIS SEAT. 7 by the template 'for every input the law returns true; each argument reads behind the call as it read before'; 0 by the template 'total and deterministic' (their statements: YtkpkkbpfcchgaaaTotals.lean).
  GIVEN WITH THE SEED: the statements are not yours to turn. If you find one false, say at which input.
  Laid BY PROGRAM, IN A SANDBOX (cutbox-rows.mjs): the forced cells as the released guide's own fill.sh prints them over the translation da9e6c5515148b81… (all of the seat's roots in one cut). By AI agents, Wed Nov 11 2026. No macro, syntax, notation, axiom, sorry.
-/
import Derived.Test.YtkpkkbpfcchgaaaChecked
import GoSem.Claim
import GoSem.ClaimJoined
import GoSem.ClaimMapViews
import Derived.JoinedTies
import Derived.KernelRfl
namespace Go.Proofs.Ytkpkkbpfcchgaaa
/- THE CELL 'sum', in the pinned program and in every row, IS THE sha256 OF THE DUMP (.gsa) THAT YtkpkkbpfcchgaaaProg.lean LOADS. Nothing in Lean hashes anything: it is a label: what it is worth is what the hold of that sum in a sandbox is worth. -/
noncomputable def Try.pinned : Pinned := { name := "ytkpkkbpfcchgaaa", sum := "da9e6c5515148b81b2208757438f2c4c06af2ad75b79d2da123d5be1ee5117de", checked := Try.checked }
namespace Rows
def none {H : Type} : Left H := { results := [], args := [] }

/-- 'compactorlaw13.MixerMakes': WHATEVER THE INPUT: true; the input reads as it did. -/
def mixerMakesSpec : ChangeSpec := { name := "mixerMakes", fn := fun _ => fun
  | [d1, d2, d3] => { results := [.lit (.bool true)], args := [d1, d2, d3] }
  | _ => none }
def mixerMakesRow : OpenClaim := { program := "ytkpkkbpfcchgaaa", sum := "da9e6c5515148b81b2208757438f2c4c06af2ad75b79d2da123d5be1ee5117de", func := "compactor/compactorlaw13.MixerMakes", spec := "mixerMakes", unfollowed := true, recurses := true, apart := false }
def MixerMakesSaid : Prop := mixerMakesRow.holds Try.pinned (OpenSpec.ofChange mixerMakesSpec)

/-- ITS FALSE NEIGHBOUR: 'it returns false'. Refute it at one input. -/
def mixerMakesWrong : ChangeSpec := { name := "mixerMakes", fn := fun _ => fun
  | [d1, d2, d3] => { results := [.lit (.bool false)], args := [d1, d2, d3] }
  | _ => none }
def MixerMakesWrongFalsely : Prop := mixerMakesRow.holds Try.pinned (OpenSpec.ofChange mixerMakesWrong)

/-- 'compactorlaw13.MixerMixes': WHATEVER THE INPUT: true; the input reads as it did. -/
def mixerMixesSpec : ChangeSpec := { name := "mixerMixes", fn := fun _ => fun
  | [d1, d2, d3] => { results := [.lit (.bool true)], args := [d1, d2, d3] }
  | _ => none }
def mixerMixesRow : OpenClaim := { program := "ytkpkkbpfcchgaaa", sum := "da9e6c5515148b81b2208757438f2c4c06af2ad75b79d2da123d5be1ee5117de", func := "compactor/compactorlaw13.MixerMixes", spec := "mixerMixes", unfollowed := true, recurses := true, apart := false }
def MixerMixesSaid : Prop := mixerMixesRow.holds Try.pinned (OpenSpec.ofChange mixerMixesSpec)

/-- ITS FALSE NEIGHBOUR: 'it returns false'. Refute it at one input. -/
def mixerMixesWrong : ChangeSpec := { name := "mixerMixes", fn := fun _ => fun
  | [d1, d2, d3] => { results := [.lit (.bool false)], args := [d1, d2, d3] }
  | _ => none }
def MixerMixesWrongFalsely : Prop := mixerMixesRow.holds Try.pinned (OpenSpec.ofChange mixerMixesWrong)

/-- 'compactorlaw13.MixerLearns': WHATEVER THE INPUT: true; the input reads as it did. -/
def mixerLearnsSpec : ChangeSpec := { name := "mixerLearns", fn := fun _ => fun
  | [d1, d2, d3] => { results := [.lit (.bool true)], args := [d1, d2, d3] }
  | _ => none }
def mixerLearnsRow : OpenClaim := { program := "ytkpkkbpfcchgaaa", sum := "da9e6c5515148b81b2208757438f2c4c06af2ad75b79d2da123d5be1ee5117de", func := "compactor/compactorlaw13.MixerLearns", spec := "mixerLearns", unfollowed := true, recurses := true, apart := false }
def MixerLearnsSaid : Prop := mixerLearnsRow.holds Try.pinned (OpenSpec.ofChange mixerLearnsSpec)

/-- ITS FALSE NEIGHBOUR: 'it returns false'. Refute it at one input. -/
def mixerLearnsWrong : ChangeSpec := { name := "mixerLearns", fn := fun _ => fun
  | [d1, d2, d3] => { results := [.lit (.bool false)], args := [d1, d2, d3] }
  | _ => none }
def MixerLearnsWrongFalsely : Prop := mixerLearnsRow.holds Try.pinned (OpenSpec.ofChange mixerLearnsWrong)

/-- 'compactorlaw13.MixerAverages': WHATEVER THE INPUT: true; the input reads as it did. -/
def mixerAveragesSpec : ChangeSpec := { name := "mixerAverages", fn := fun _ => fun
  | [d1, d2, d3] => { results := [.lit (.bool true)], args := [d1, d2, d3] }
  | _ => none }
def mixerAveragesRow : OpenClaim := { program := "ytkpkkbpfcchgaaa", sum := "da9e6c5515148b81b2208757438f2c4c06af2ad75b79d2da123d5be1ee5117de", func := "compactor/compactorlaw13.MixerAverages", spec := "mixerAverages", unfollowed := true, recurses := true, apart := false }
def MixerAveragesSaid : Prop := mixerAveragesRow.holds Try.pinned (OpenSpec.ofChange mixerAveragesSpec)

/-- ITS FALSE NEIGHBOUR: 'it returns false'. Refute it at one input. -/
def mixerAveragesWrong : ChangeSpec := { name := "mixerAverages", fn := fun _ => fun
  | [d1, d2, d3] => { results := [.lit (.bool false)], args := [d1, d2, d3] }
  | _ => none }
def MixerAveragesWrongFalsely : Prop := mixerAveragesRow.holds Try.pinned (OpenSpec.ofChange mixerAveragesWrong)

/-- 'compactorlaw13.MixerFollows': WHATEVER THE INPUT: true; the input reads as it did. -/
def mixerFollowsSpec : ChangeSpec := { name := "mixerFollows", fn := fun _ => fun
  | [d1, d2] => { results := [.lit (.bool true)], args := [d1, d2] }
  | _ => none }
def mixerFollowsRow : OpenClaim := { program := "ytkpkkbpfcchgaaa", sum := "da9e6c5515148b81b2208757438f2c4c06af2ad75b79d2da123d5be1ee5117de", func := "compactor/compactorlaw13.MixerFollows", spec := "mixerFollows", unfollowed := true, recurses := true, apart := false }
def MixerFollowsSaid : Prop := mixerFollowsRow.holds Try.pinned (OpenSpec.ofChange mixerFollowsSpec)

/-- ITS FALSE NEIGHBOUR: 'it returns false'. Refute it at one input. -/
def mixerFollowsWrong : ChangeSpec := { name := "mixerFollows", fn := fun _ => fun
  | [d1, d2] => { results := [.lit (.bool false)], args := [d1, d2] }
  | _ => none }
def MixerFollowsWrongFalsely : Prop := mixerFollowsRow.holds Try.pinned (OpenSpec.ofChange mixerFollowsWrong)

/-- 'compactorlaw13.MixerKeeps': WHATEVER THE INPUT: true; the input reads as it did. -/
def mixerKeepsSpec : ChangeSpec := { name := "mixerKeeps", fn := fun _ => fun
  | [d1, d2, d3] => { results := [.lit (.bool true)], args := [d1, d2, d3] }
  | _ => none }
def mixerKeepsRow : OpenClaim := { program := "ytkpkkbpfcchgaaa", sum := "da9e6c5515148b81b2208757438f2c4c06af2ad75b79d2da123d5be1ee5117de", func := "compactor/compactorlaw13.MixerKeeps", spec := "mixerKeeps", unfollowed := true, recurses := true, apart := false }
def MixerKeepsSaid : Prop := mixerKeepsRow.holds Try.pinned (OpenSpec.ofChange mixerKeepsSpec)

/-- ITS FALSE NEIGHBOUR: 'it returns false'. Refute it at one input. -/
def mixerKeepsWrong : ChangeSpec := { name := "mixerKeeps", fn := fun _ => fun
  | [d1, d2, d3] => { results := [.lit (.bool false)], args := [d1, d2, d3] }
  | _ => none }
def MixerKeepsWrongFalsely : Prop := mixerKeepsRow.holds Try.pinned (OpenSpec.ofChange mixerKeepsWrong)

/-- 'compactorlaw13.MixerExchanges': WHATEVER THE INPUT: true; the input reads as it did. -/
def mixerExchangesSpec : ChangeSpec := { name := "mixerExchanges", fn := fun _ => fun
  | [d1, d2] => { results := [.lit (.bool true)], args := [d1, d2] }
  | _ => none }
def mixerExchangesRow : OpenClaim := { program := "ytkpkkbpfcchgaaa", sum := "da9e6c5515148b81b2208757438f2c4c06af2ad75b79d2da123d5be1ee5117de", func := "compactor/compactorlaw13.MixerExchanges", spec := "mixerExchanges", unfollowed := true, recurses := true, apart := false }
def MixerExchangesSaid : Prop := mixerExchangesRow.holds Try.pinned (OpenSpec.ofChange mixerExchangesSpec)

/-- ITS FALSE NEIGHBOUR: 'it returns false'. Refute it at one input. -/
def mixerExchangesWrong : ChangeSpec := { name := "mixerExchanges", fn := fun _ => fun
  | [d1, d2] => { results := [.lit (.bool false)], args := [d1, d2] }
  | _ => none }
def MixerExchangesWrongFalsely : Prop := mixerExchangesRow.holds Try.pinned (OpenSpec.ofChange mixerExchangesWrong)

/- THE SECOND FORM. 'bulk': how many values and letters a reading holds, each counted each time it is reached (what is shared counts as often as it is met; a slice's spare places count too). A statement '..UptoSaid' is the law's where the arguments, and the package variables that the reading takes, are together of bulk at most 1048576: NARROWER than '..Said'. Prove '..Said' where nothing that the law and all that it calls make is longer than what came in: it says more and counts as full. Else prove '..UptoSaid'. A law counts once. -/
mutual
def uptoBulk {H : Type} : DataW H → Nat
  | .lit (.string bytes) => bytes.length + 1
  | .lit _ => 1
  | .nil => 1
  | .ptr d => uptoBulk d + 1
  | .slice elems spare => uptoBulkAll elems + uptoBulkAll spare + 1
  | .agg parts => uptoBulkAll parts + 1
  | .iface _ d => uptoBulk d + 1
  | .map entries => uptoBulkEntries entries + 1
  | .held _ => 1
def uptoBulkAll {H : Type} : List (DataW H) → Nat
  | [] => 0
  | d :: r => uptoBulk d + uptoBulkAll r
def uptoBulkEntries {H : Type} : List (Lit × DataW H) → Nat
  | [] => 0
  | x :: r => uptoBulkEntry x + uptoBulkEntries r
def uptoBulkEntry {H : Type} : Lit × DataW H → Nat
  | (.string bytes, d) => bytes.length + uptoBulk d + 1
  | (_, d) => uptoBulk d + 1
 end
def uptoSmall : (H : Type) → List (DataW H) → Bool := fun _ ds => decide (uptoBulkAll ds ≤ 1048576)
def OpenSpec.upto (s : _root_.Go.ChangeSpec) : _root_.Go.OpenSpec := { _root_.Go.OpenSpec.ofChange s with cond := some uptoSmall }

/-- 'compactorlaw13.MixerMakes', WHERE WHAT IT READS IS OF BULK AT MOST 1048576: true; the input reads as it did. -/
def mixerMakesUptoRow : OpenClaim := { program := "ytkpkkbpfcchgaaa", sum := "da9e6c5515148b81b2208757438f2c4c06af2ad75b79d2da123d5be1ee5117de", func := "compactor/compactorlaw13.MixerMakes", spec := "mixerMakes", unfollowed := true, recurses := true, apart := false, narrowed := true }
def MixerMakesUptoSaid : Prop := mixerMakesUptoRow.holds Try.pinned (OpenSpec.upto mixerMakesSpec)

/-- 'compactorlaw13.MixerMixes', WHERE WHAT IT READS IS OF BULK AT MOST 1048576: true; the input reads as it did. -/
def mixerMixesUptoRow : OpenClaim := { program := "ytkpkkbpfcchgaaa", sum := "da9e6c5515148b81b2208757438f2c4c06af2ad75b79d2da123d5be1ee5117de", func := "compactor/compactorlaw13.MixerMixes", spec := "mixerMixes", unfollowed := true, recurses := true, apart := false, narrowed := true }
def MixerMixesUptoSaid : Prop := mixerMixesUptoRow.holds Try.pinned (OpenSpec.upto mixerMixesSpec)

/-- 'compactorlaw13.MixerLearns', WHERE WHAT IT READS IS OF BULK AT MOST 1048576: true; the input reads as it did. -/
def mixerLearnsUptoRow : OpenClaim := { program := "ytkpkkbpfcchgaaa", sum := "da9e6c5515148b81b2208757438f2c4c06af2ad75b79d2da123d5be1ee5117de", func := "compactor/compactorlaw13.MixerLearns", spec := "mixerLearns", unfollowed := true, recurses := true, apart := false, narrowed := true }
def MixerLearnsUptoSaid : Prop := mixerLearnsUptoRow.holds Try.pinned (OpenSpec.upto mixerLearnsSpec)

/-- 'compactorlaw13.MixerAverages', WHERE WHAT IT READS IS OF BULK AT MOST 1048576: true; the input reads as it did. -/
def mixerAveragesUptoRow : OpenClaim := { program := "ytkpkkbpfcchgaaa", sum := "da9e6c5515148b81b2208757438f2c4c06af2ad75b79d2da123d5be1ee5117de", func := "compactor/compactorlaw13.MixerAverages", spec := "mixerAverages", unfollowed := true, recurses := true, apart := false, narrowed := true }
def MixerAveragesUptoSaid : Prop := mixerAveragesUptoRow.holds Try.pinned (OpenSpec.upto mixerAveragesSpec)

/-- 'compactorlaw13.MixerFollows', WHERE WHAT IT READS IS OF BULK AT MOST 1048576: true; the input reads as it did. -/
def mixerFollowsUptoRow : OpenClaim := { program := "ytkpkkbpfcchgaaa", sum := "da9e6c5515148b81b2208757438f2c4c06af2ad75b79d2da123d5be1ee5117de", func := "compactor/compactorlaw13.MixerFollows", spec := "mixerFollows", unfollowed := true, recurses := true, apart := false, narrowed := true }
def MixerFollowsUptoSaid : Prop := mixerFollowsUptoRow.holds Try.pinned (OpenSpec.upto mixerFollowsSpec)

/-- 'compactorlaw13.MixerKeeps', WHERE WHAT IT READS IS OF BULK AT MOST 1048576: true; the input reads as it did. -/
def mixerKeepsUptoRow : OpenClaim := { program := "ytkpkkbpfcchgaaa", sum := "da9e6c5515148b81b2208757438f2c4c06af2ad75b79d2da123d5be1ee5117de", func := "compactor/compactorlaw13.MixerKeeps", spec := "mixerKeeps", unfollowed := true, recurses := true, apart := false, narrowed := true }
def MixerKeepsUptoSaid : Prop := mixerKeepsUptoRow.holds Try.pinned (OpenSpec.upto mixerKeepsSpec)

/-- 'compactorlaw13.MixerExchanges', WHERE WHAT IT READS IS OF BULK AT MOST 1048576: true; the input reads as it did. -/
def mixerExchangesUptoRow : OpenClaim := { program := "ytkpkkbpfcchgaaa", sum := "da9e6c5515148b81b2208757438f2c4c06af2ad75b79d2da123d5be1ee5117de", func := "compactor/compactorlaw13.MixerExchanges", spec := "mixerExchanges", unfollowed := true, recurses := true, apart := false, narrowed := true }
def MixerExchangesUptoSaid : Prop := mixerExchangesUptoRow.holds Try.pinned (OpenSpec.upto mixerExchangesSpec)

end Rows
end Go.Proofs.Ytkpkkbpfcchgaaa
