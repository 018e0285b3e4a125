/-
  No cell of these rows narrows 'for every input' (looked for: loops, veiled, ifaces, maps, wideKeys, modest, calm, conditions, laid).
  DERIVED. THE GIVEN ROWS OF THIS SEAT. 9 by the template 'for every input the law returns true; each argument reads behind the call as it read before'; 0 by the template 'total and deterministic' (their statements: YtgbjckjfjoiilaaTotals.lean).
  GIVEN WITH THE SEED: the statements are not yours to turn. If you find one false, say at which input.
  Laid BY PROGRAM, IN A SANDBOX (cutbox-rows.mjs): the forced cells as the released guide's own fill.sh prints them over the translation 31545af43225cd2c… (all of the seat's roots in one cut). By AI agents, Wed Nov 11 2026. No macro, syntax, notation, axiom, sorry.
-/
import Derived.Test.YtgbjckjfjoiilaaChecked
import GoSem.Claim
import GoSem.ClaimJoined
import GoSem.ClaimMapViews
import Derived.JoinedTies
import Derived.KernelRfl
namespace Go.Proofs.Ytgbjckjfjoiilaa
/- THE CELL 'sum', in the pinned program and in every row, IS THE sha256 OF THE DUMP (.gsa) THAT YtgbjckjfjoiilaaProg.lean LOADS. Nothing in Lean hashes anything: it is a label: what it is worth is what the hold of that sum in a sandbox is worth. -/
noncomputable def Try.pinned : Pinned := { name := "ytgbjckjfjoiilaa", sum := "31545af43225cd2cdf535476689880330a99c606c084dc5d78d5e471260b73e3", checked := Try.checked }
namespace Rows
def none {H : Type} : Left H := { results := [], args := [] }

/-- 'compactortop.TopContextsSeparate': WHATEVER THE INPUT: true; the input reads as it did. -/
def topContextsSeparateSpec : ChangeSpec := { name := "topContextsSeparate", fn := fun _ => fun
  | [d1, d2] => { results := [.lit (.bool true)], args := [d1, d2] }
  | _ => none }
def topContextsSeparateRow : OpenClaim := { program := "ytgbjckjfjoiilaa", sum := "31545af43225cd2cdf535476689880330a99c606c084dc5d78d5e471260b73e3", func := "compactor/compactortop.TopContextsSeparate", spec := "topContextsSeparate", unfollowed := true, recurses := true, apart := false }
def TopContextsSeparateSaid : Prop := topContextsSeparateRow.holds Try.pinned (OpenSpec.ofChange topContextsSeparateSpec)

/-- ITS FALSE NEIGHBOUR: 'it returns false'. Refute it at one input. -/
def topContextsSeparateWrong : ChangeSpec := { name := "topContextsSeparate", fn := fun _ => fun
  | [d1, d2] => { results := [.lit (.bool false)], args := [d1, d2] }
  | _ => none }
def TopContextsSeparateWrongFalsely : Prop := topContextsSeparateRow.holds Try.pinned (OpenSpec.ofChange topContextsSeparateWrong)

/-- 'compactorlaw10.SlotsMakes': WHATEVER THE INPUT: true; the input reads as it did. -/
def slotsMakesSpec : ChangeSpec := { name := "slotsMakes", fn := fun _ => fun
  | [d1, d2] => { results := [.lit (.bool true)], args := [d1, d2] }
  | _ => none }
def slotsMakesRow : OpenClaim := { program := "ytgbjckjfjoiilaa", sum := "31545af43225cd2cdf535476689880330a99c606c084dc5d78d5e471260b73e3", func := "compactor/compactorlaw10.SlotsMakes", spec := "slotsMakes", unfollowed := true, recurses := true, apart := false }
def SlotsMakesSaid : Prop := slotsMakesRow.holds Try.pinned (OpenSpec.ofChange slotsMakesSpec)

/-- ITS FALSE NEIGHBOUR: 'it returns false'. Refute it at one input. -/
def slotsMakesWrong : ChangeSpec := { name := "slotsMakes", fn := fun _ => fun
  | [d1, d2] => { results := [.lit (.bool false)], args := [d1, d2] }
  | _ => none }
def SlotsMakesWrongFalsely : Prop := slotsMakesRow.holds Try.pinned (OpenSpec.ofChange slotsMakesWrong)

/-- 'compactorlaw10.SlotsOpens': WHATEVER THE INPUT: true; the input reads as it did. -/
def slotsOpensSpec : ChangeSpec := { name := "slotsOpens", fn := fun _ => fun
  | [d1, d2] => { results := [.lit (.bool true)], args := [d1, d2] }
  | _ => none }
def slotsOpensRow : OpenClaim := { program := "ytgbjckjfjoiilaa", sum := "31545af43225cd2cdf535476689880330a99c606c084dc5d78d5e471260b73e3", func := "compactor/compactorlaw10.SlotsOpens", spec := "slotsOpens", unfollowed := true, recurses := true, apart := false }
def SlotsOpensSaid : Prop := slotsOpensRow.holds Try.pinned (OpenSpec.ofChange slotsOpensSpec)

/-- ITS FALSE NEIGHBOUR: 'it returns false'. Refute it at one input. -/
def slotsOpensWrong : ChangeSpec := { name := "slotsOpens", fn := fun _ => fun
  | [d1, d2] => { results := [.lit (.bool false)], args := [d1, d2] }
  | _ => none }
def SlotsOpensWrongFalsely : Prop := slotsOpensRow.holds Try.pinned (OpenSpec.ofChange slotsOpensWrong)

/-- 'compactorlaw10.SlotsWrites': WHATEVER THE INPUT: true; the input reads as it did. -/
def slotsWritesSpec : ChangeSpec := { name := "slotsWrites", fn := fun _ => fun
  | [d1, d2, d3] => { results := [.lit (.bool true)], args := [d1, d2, d3] }
  | _ => none }
def slotsWritesRow : OpenClaim := { program := "ytgbjckjfjoiilaa", sum := "31545af43225cd2cdf535476689880330a99c606c084dc5d78d5e471260b73e3", func := "compactor/compactorlaw10.SlotsWrites", spec := "slotsWrites", unfollowed := true, recurses := true, apart := false }
def SlotsWritesSaid : Prop := slotsWritesRow.holds Try.pinned (OpenSpec.ofChange slotsWritesSpec)

/-- ITS FALSE NEIGHBOUR: 'it returns false'. Refute it at one input. -/
def slotsWritesWrong : ChangeSpec := { name := "slotsWrites", fn := fun _ => fun
  | [d1, d2, d3] => { results := [.lit (.bool false)], args := [d1, d2, d3] }
  | _ => none }
def SlotsWritesWrongFalsely : Prop := slotsWritesRow.holds Try.pinned (OpenSpec.ofChange slotsWritesWrong)

/-- 'compactorlaw10.SlotsReads': WHATEVER THE INPUT: true; the input reads as it did. -/
def slotsReadsSpec : ChangeSpec := { name := "slotsReads", fn := fun _ => fun
  | [d1, d2, d3] => { results := [.lit (.bool true)], args := [d1, d2, d3] }
  | _ => none }
def slotsReadsRow : OpenClaim := { program := "ytgbjckjfjoiilaa", sum := "31545af43225cd2cdf535476689880330a99c606c084dc5d78d5e471260b73e3", func := "compactor/compactorlaw10.SlotsReads", spec := "slotsReads", unfollowed := true, recurses := true, apart := false }
def SlotsReadsSaid : Prop := slotsReadsRow.holds Try.pinned (OpenSpec.ofChange slotsReadsSpec)

/-- ITS FALSE NEIGHBOUR: 'it returns false'. Refute it at one input. -/
def slotsReadsWrong : ChangeSpec := { name := "slotsReads", fn := fun _ => fun
  | [d1, d2, d3] => { results := [.lit (.bool false)], args := [d1, d2, d3] }
  | _ => none }
def SlotsReadsWrongFalsely : Prop := slotsReadsRow.holds Try.pinned (OpenSpec.ofChange slotsReadsWrong)

/-- 'compactorlaw10.SlotsSeparates': WHATEVER THE INPUT: true; the input reads as it did. -/
def slotsSeparatesSpec : ChangeSpec := { name := "slotsSeparates", fn := fun _ => fun
  | [d1, d2, d3] => { results := [.lit (.bool true)], args := [d1, d2, d3] }
  | _ => none }
def slotsSeparatesRow : OpenClaim := { program := "ytgbjckjfjoiilaa", sum := "31545af43225cd2cdf535476689880330a99c606c084dc5d78d5e471260b73e3", func := "compactor/compactorlaw10.SlotsSeparates", spec := "slotsSeparates", unfollowed := true, recurses := true, apart := false }
def SlotsSeparatesSaid : Prop := slotsSeparatesRow.holds Try.pinned (OpenSpec.ofChange slotsSeparatesSpec)

/-- ITS FALSE NEIGHBOUR: 'it returns false'. Refute it at one input. -/
def slotsSeparatesWrong : ChangeSpec := { name := "slotsSeparates", fn := fun _ => fun
  | [d1, d2, d3] => { results := [.lit (.bool false)], args := [d1, d2, d3] }
  | _ => none }
def SlotsSeparatesWrongFalsely : Prop := slotsSeparatesRow.holds Try.pinned (OpenSpec.ofChange slotsSeparatesWrong)

/-- 'compactorlaw10.SlotsSets': WHATEVER THE INPUT: true; the input reads as it did. -/
def slotsSetsSpec : ChangeSpec := { name := "slotsSets", fn := fun _ => fun
  | [d1, d2, d3] => { results := [.lit (.bool true)], args := [d1, d2, d3] }
  | _ => none }
def slotsSetsRow : OpenClaim := { program := "ytgbjckjfjoiilaa", sum := "31545af43225cd2cdf535476689880330a99c606c084dc5d78d5e471260b73e3", func := "compactor/compactorlaw10.SlotsSets", spec := "slotsSets", unfollowed := true, recurses := true, apart := false }
def SlotsSetsSaid : Prop := slotsSetsRow.holds Try.pinned (OpenSpec.ofChange slotsSetsSpec)

/-- ITS FALSE NEIGHBOUR: 'it returns false'. Refute it at one input. -/
def slotsSetsWrong : ChangeSpec := { name := "slotsSets", fn := fun _ => fun
  | [d1, d2, d3] => { results := [.lit (.bool false)], args := [d1, d2, d3] }
  | _ => none }
def SlotsSetsWrongFalsely : Prop := slotsSetsRow.holds Try.pinned (OpenSpec.ofChange slotsSetsWrong)

/-- 'compactorlaw10.SlotsReplaces': WHATEVER THE INPUT: true; the input reads as it did. -/
def slotsReplacesSpec : ChangeSpec := { name := "slotsReplaces", fn := fun _ => fun
  | [d1, d2, d3] => { results := [.lit (.bool true)], args := [d1, d2, d3] }
  | _ => none }
def slotsReplacesRow : OpenClaim := { program := "ytgbjckjfjoiilaa", sum := "31545af43225cd2cdf535476689880330a99c606c084dc5d78d5e471260b73e3", func := "compactor/compactorlaw10.SlotsReplaces", spec := "slotsReplaces", unfollowed := true, recurses := true, apart := false }
def SlotsReplacesSaid : Prop := slotsReplacesRow.holds Try.pinned (OpenSpec.ofChange slotsReplacesSpec)

/-- ITS FALSE NEIGHBOUR: 'it returns false'. Refute it at one input. -/
def slotsReplacesWrong : ChangeSpec := { name := "slotsReplaces", fn := fun _ => fun
  | [d1, d2, d3] => { results := [.lit (.bool false)], args := [d1, d2, d3] }
  | _ => none }
def SlotsReplacesWrongFalsely : Prop := slotsReplacesRow.holds Try.pinned (OpenSpec.ofChange slotsReplacesWrong)

/-- 'compactorlaw10.SlotsRemembers': WHATEVER THE INPUT: true; the input reads as it did. -/
def slotsRemembersSpec : ChangeSpec := { name := "slotsRemembers", fn := fun _ => fun
  | [d1, d2] => { results := [.lit (.bool true)], args := [d1, d2] }
  | _ => none }
def slotsRemembersRow : OpenClaim := { program := "ytgbjckjfjoiilaa", sum := "31545af43225cd2cdf535476689880330a99c606c084dc5d78d5e471260b73e3", func := "compactor/compactorlaw10.SlotsRemembers", spec := "slotsRemembers", unfollowed := true, recurses := true, apart := false }
def SlotsRemembersSaid : Prop := slotsRemembersRow.holds Try.pinned (OpenSpec.ofChange slotsRemembersSpec)

/-- ITS FALSE NEIGHBOUR: 'it returns false'. Refute it at one input. -/
def slotsRemembersWrong : ChangeSpec := { name := "slotsRemembers", fn := fun _ => fun
  | [d1, d2] => { results := [.lit (.bool false)], args := [d1, d2] }
  | _ => none }
def SlotsRemembersWrongFalsely : Prop := slotsRemembersRow.holds Try.pinned (OpenSpec.ofChange slotsRemembersWrong)

/- THE SECOND FORM. 'bulk': how many values and letters a reading holds, each counted each time it is reached (what is shared counts as often as it is met; a slice's spare places count too). A statement '..UptoSaid' is the law's where the arguments, and the package variables that the reading takes, are together of bulk at most 1048576: NARROWER than '..Said'. Prove '..Said' where nothing that the law and all that it calls make is longer than what came in: it says more and counts as full. Else prove '..UptoSaid'. A law counts once. -/
mutual
def uptoBulk {H : Type} : DataW H → Nat
  | .lit (.string bytes) => bytes.length + 1
  | .lit _ => 1
  | .nil => 1
  | .ptr d => uptoBulk d + 1
  | .slice elems spare => uptoBulkAll elems + uptoBulkAll spare + 1
  | .agg parts => uptoBulkAll parts + 1
  | .iface _ d => uptoBulk d + 1
  | .map entries => uptoBulkEntries entries + 1
  | .held _ => 1
def uptoBulkAll {H : Type} : List (DataW H) → Nat
  | [] => 0
  | d :: r => uptoBulk d + uptoBulkAll r
def uptoBulkEntries {H : Type} : List (Lit × DataW H) → Nat
  | [] => 0
  | x :: r => uptoBulkEntry x + uptoBulkEntries r
def uptoBulkEntry {H : Type} : Lit × DataW H → Nat
  | (.string bytes, d) => bytes.length + uptoBulk d + 1
  | (_, d) => uptoBulk d + 1
 end
def uptoSmall : (H : Type) → List (DataW H) → Bool := fun _ ds => decide (uptoBulkAll ds ≤ 1048576)
def OpenSpec.upto (s : _root_.Go.ChangeSpec) : _root_.Go.OpenSpec := { _root_.Go.OpenSpec.ofChange s with cond := some uptoSmall }

/-- 'compactortop.TopContextsSeparate', WHERE WHAT IT READS IS OF BULK AT MOST 1048576: true; the input reads as it did. -/
def topContextsSeparateUptoRow : OpenClaim := { program := "ytgbjckjfjoiilaa", sum := "31545af43225cd2cdf535476689880330a99c606c084dc5d78d5e471260b73e3", func := "compactor/compactortop.TopContextsSeparate", spec := "topContextsSeparate", unfollowed := true, recurses := true, apart := false, narrowed := true }
def TopContextsSeparateUptoSaid : Prop := topContextsSeparateUptoRow.holds Try.pinned (OpenSpec.upto topContextsSeparateSpec)

/-- 'compactorlaw10.SlotsMakes', WHERE WHAT IT READS IS OF BULK AT MOST 1048576: true; the input reads as it did. -/
def slotsMakesUptoRow : OpenClaim := { program := "ytgbjckjfjoiilaa", sum := "31545af43225cd2cdf535476689880330a99c606c084dc5d78d5e471260b73e3", func := "compactor/compactorlaw10.SlotsMakes", spec := "slotsMakes", unfollowed := true, recurses := true, apart := false, narrowed := true }
def SlotsMakesUptoSaid : Prop := slotsMakesUptoRow.holds Try.pinned (OpenSpec.upto slotsMakesSpec)

/-- 'compactorlaw10.SlotsOpens', WHERE WHAT IT READS IS OF BULK AT MOST 1048576: true; the input reads as it did. -/
def slotsOpensUptoRow : OpenClaim := { program := "ytgbjckjfjoiilaa", sum := "31545af43225cd2cdf535476689880330a99c606c084dc5d78d5e471260b73e3", func := "compactor/compactorlaw10.SlotsOpens", spec := "slotsOpens", unfollowed := true, recurses := true, apart := false, narrowed := true }
def SlotsOpensUptoSaid : Prop := slotsOpensUptoRow.holds Try.pinned (OpenSpec.upto slotsOpensSpec)

/-- 'compactorlaw10.SlotsWrites', WHERE WHAT IT READS IS OF BULK AT MOST 1048576: true; the input reads as it did. -/
def slotsWritesUptoRow : OpenClaim := { program := "ytgbjckjfjoiilaa", sum := "31545af43225cd2cdf535476689880330a99c606c084dc5d78d5e471260b73e3", func := "compactor/compactorlaw10.SlotsWrites", spec := "slotsWrites", unfollowed := true, recurses := true, apart := false, narrowed := true }
def SlotsWritesUptoSaid : Prop := slotsWritesUptoRow.holds Try.pinned (OpenSpec.upto slotsWritesSpec)

/-- 'compactorlaw10.SlotsReads', WHERE WHAT IT READS IS OF BULK AT MOST 1048576: true; the input reads as it did. -/
def slotsReadsUptoRow : OpenClaim := { program := "ytgbjckjfjoiilaa", sum := "31545af43225cd2cdf535476689880330a99c606c084dc5d78d5e471260b73e3", func := "compactor/compactorlaw10.SlotsReads", spec := "slotsReads", unfollowed := true, recurses := true, apart := false, narrowed := true }
def SlotsReadsUptoSaid : Prop := slotsReadsUptoRow.holds Try.pinned (OpenSpec.upto slotsReadsSpec)

/-- 'compactorlaw10.SlotsSeparates', WHERE WHAT IT READS IS OF BULK AT MOST 1048576: true; the input reads as it did. -/
def slotsSeparatesUptoRow : OpenClaim := { program := "ytgbjckjfjoiilaa", sum := "31545af43225cd2cdf535476689880330a99c606c084dc5d78d5e471260b73e3", func := "compactor/compactorlaw10.SlotsSeparates", spec := "slotsSeparates", unfollowed := true, recurses := true, apart := false, narrowed := true }
def SlotsSeparatesUptoSaid : Prop := slotsSeparatesUptoRow.holds Try.pinned (OpenSpec.upto slotsSeparatesSpec)

/-- 'compactorlaw10.SlotsSets', WHERE WHAT IT READS IS OF BULK AT MOST 1048576: true; the input reads as it did. -/
def slotsSetsUptoRow : OpenClaim := { program := "ytgbjckjfjoiilaa", sum := "31545af43225cd2cdf535476689880330a99c606c084dc5d78d5e471260b73e3", func := "compactor/compactorlaw10.SlotsSets", spec := "slotsSets", unfollowed := true, recurses := true, apart := false, narrowed := true }
def SlotsSetsUptoSaid : Prop := slotsSetsUptoRow.holds Try.pinned (OpenSpec.upto slotsSetsSpec)

/-- 'compactorlaw10.SlotsReplaces', WHERE WHAT IT READS IS OF BULK AT MOST 1048576: true; the input reads as it did. -/
def slotsReplacesUptoRow : OpenClaim := { program := "ytgbjckjfjoiilaa", sum := "31545af43225cd2cdf535476689880330a99c606c084dc5d78d5e471260b73e3", func := "compactor/compactorlaw10.SlotsReplaces", spec := "slotsReplaces", unfollowed := true, recurses := true, apart := false, narrowed := true }
def SlotsReplacesUptoSaid : Prop := slotsReplacesUptoRow.holds Try.pinned (OpenSpec.upto slotsReplacesSpec)

/-- 'compactorlaw10.SlotsRemembers', WHERE WHAT IT READS IS OF BULK AT MOST 1048576: true; the input reads as it did. -/
def slotsRemembersUptoRow : OpenClaim := { program := "ytgbjckjfjoiilaa", sum := "31545af43225cd2cdf535476689880330a99c606c084dc5d78d5e471260b73e3", func := "compactor/compactorlaw10.SlotsRemembers", spec := "slotsRemembers", unfollowed := true, recurses := true, apart := false, narrowed := true }
def SlotsRemembersUptoSaid : Prop := slotsRemembersUptoRow.holds Try.pinned (OpenSpec.upto slotsRemembersSpec)

end Rows
end Go.Proofs.Ytgbjckjfjoiilaa
