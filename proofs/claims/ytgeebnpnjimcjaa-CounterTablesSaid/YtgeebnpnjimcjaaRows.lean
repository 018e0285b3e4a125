/-
  No cell of these rows narrows 'for every input' (looked for: loops, veiled, ifaces, maps, wideKeys, modest, calm, conditions, laid).
  DERIVED. THE GIVEN ROWS OF THIS SEAT. 7 by the template 'for every input the law returns true; each argument reads behind the call as it read before'; 0 by the template 'total and deterministic' (their statements: YtgeebnpnjimcjaaTotals.lean).
  GIVEN WITH THE SEED: the statements are not yours to turn. If you find one false, say at which input.
  Laid BY PROGRAM, IN A SANDBOX (cutbox-rows.mjs): the forced cells as the released guide's own fill.sh prints them over the translation 25c839e6b2d833d0… (all of the seat's roots in one cut). By AI agents, Wed Nov 11 2026. No macro, syntax, notation, axiom, sorry.
-/
import Derived.Test.YtgeebnpnjimcjaaChecked
import GoSem.Claim
import GoSem.ClaimJoined
import GoSem.ClaimMapViews
import Derived.JoinedTies
import Derived.KernelRfl
namespace Go.Proofs.Ytgeebnpnjimcjaa
/- THE CELL 'sum', in the pinned program and in every row, IS THE sha256 OF THE DUMP (.gsa) THAT YtgeebnpnjimcjaaProg.lean LOADS. Nothing in Lean hashes anything: it is a label: what it is worth is what the hold of that sum in a sandbox is worth. -/
noncomputable def Try.pinned : Pinned := { name := "ytgeebnpnjimcjaa", sum := "25c839e6b2d833d07a82543dabd5c17e5bbc7398fe99f81172cc05f85b3a9207", checked := Try.checked }
namespace Rows
def none {H : Type} : Left H := { results := [], args := [] }

/-- 'compactorlaw08.CounterMakes': WHATEVER THE INPUT: true; the input reads as it did. -/
def counterMakesSpec : ChangeSpec := { name := "counterMakes", fn := fun _ => fun
  | [d1, d2, d3] => { results := [.lit (.bool true)], args := [d1, d2, d3] }
  | _ => none }
def counterMakesRow : OpenClaim := { program := "ytgeebnpnjimcjaa", sum := "25c839e6b2d833d07a82543dabd5c17e5bbc7398fe99f81172cc05f85b3a9207", func := "compactor/compactorlaw08.CounterMakes", spec := "counterMakes", unfollowed := true, recurses := true, apart := false }
def CounterMakesSaid : Prop := counterMakesRow.holds Try.pinned (OpenSpec.ofChange counterMakesSpec)

/-- ITS FALSE NEIGHBOUR: 'it returns false'. Refute it at one input. -/
def counterMakesWrong : ChangeSpec := { name := "counterMakes", fn := fun _ => fun
  | [d1, d2, d3] => { results := [.lit (.bool false)], args := [d1, d2, d3] }
  | _ => none }
def CounterMakesWrongFalsely : Prop := counterMakesRow.holds Try.pinned (OpenSpec.ofChange counterMakesWrong)

/-- 'compactorlaw08.CounterUpdates': WHATEVER THE INPUT: true; the input reads as it did. -/
def counterUpdatesSpec : ChangeSpec := { name := "counterUpdates", fn := fun _ => fun
  | [d1, d2, d3] => { results := [.lit (.bool true)], args := [d1, d2, d3] }
  | _ => none }
def counterUpdatesRow : OpenClaim := { program := "ytgeebnpnjimcjaa", sum := "25c839e6b2d833d07a82543dabd5c17e5bbc7398fe99f81172cc05f85b3a9207", func := "compactor/compactorlaw08.CounterUpdates", spec := "counterUpdates", unfollowed := true, recurses := true, apart := false }
def CounterUpdatesSaid : Prop := counterUpdatesRow.holds Try.pinned (OpenSpec.ofChange counterUpdatesSpec)

/-- ITS FALSE NEIGHBOUR: 'it returns false'. Refute it at one input. -/
def counterUpdatesWrong : ChangeSpec := { name := "counterUpdates", fn := fun _ => fun
  | [d1, d2, d3] => { results := [.lit (.bool false)], args := [d1, d2, d3] }
  | _ => none }
def CounterUpdatesWrongFalsely : Prop := counterUpdatesRow.holds Try.pinned (OpenSpec.ofChange counterUpdatesWrong)

/-- 'compactorlaw08.CounterKeeps': WHATEVER THE INPUT: true; the input reads as it did. -/
def counterKeepsSpec : ChangeSpec := { name := "counterKeeps", fn := fun _ => fun
  | [d1, d2, d3] => { results := [.lit (.bool true)], args := [d1, d2, d3] }
  | _ => none }
def counterKeepsRow : OpenClaim := { program := "ytgeebnpnjimcjaa", sum := "25c839e6b2d833d07a82543dabd5c17e5bbc7398fe99f81172cc05f85b3a9207", func := "compactor/compactorlaw08.CounterKeeps", spec := "counterKeeps", unfollowed := true, recurses := true, apart := false }
def CounterKeepsSaid : Prop := counterKeepsRow.holds Try.pinned (OpenSpec.ofChange counterKeepsSpec)

/-- ITS FALSE NEIGHBOUR: 'it returns false'. Refute it at one input. -/
def counterKeepsWrong : ChangeSpec := { name := "counterKeeps", fn := fun _ => fun
  | [d1, d2, d3] => { results := [.lit (.bool false)], args := [d1, d2, d3] }
  | _ => none }
def CounterKeepsWrongFalsely : Prop := counterKeepsRow.holds Try.pinned (OpenSpec.ofChange counterKeepsWrong)

/-- 'compactorlaw08.CounterMirrors': WHATEVER THE INPUT: true; the input reads as it did. -/
def counterMirrorsSpec : ChangeSpec := { name := "counterMirrors", fn := fun _ => fun
  | [d1, d2, d3] => { results := [.lit (.bool true)], args := [d1, d2, d3] }
  | _ => none }
def counterMirrorsRow : OpenClaim := { program := "ytgeebnpnjimcjaa", sum := "25c839e6b2d833d07a82543dabd5c17e5bbc7398fe99f81172cc05f85b3a9207", func := "compactor/compactorlaw08.CounterMirrors", spec := "counterMirrors", unfollowed := true, recurses := true, apart := false }
def CounterMirrorsSaid : Prop := counterMirrorsRow.holds Try.pinned (OpenSpec.ofChange counterMirrorsSpec)

/-- ITS FALSE NEIGHBOUR: 'it returns false'. Refute it at one input. -/
def counterMirrorsWrong : ChangeSpec := { name := "counterMirrors", fn := fun _ => fun
  | [d1, d2, d3] => { results := [.lit (.bool false)], args := [d1, d2, d3] }
  | _ => none }
def CounterMirrorsWrongFalsely : Prop := counterMirrorsRow.holds Try.pinned (OpenSpec.ofChange counterMirrorsWrong)

/-- 'compactorlaw08.CounterOrders': WHATEVER THE INPUT: true; the input reads as it did. -/
def counterOrdersSpec : ChangeSpec := { name := "counterOrders", fn := fun _ => fun
  | [d1, d2, d3] => { results := [.lit (.bool true)], args := [d1, d2, d3] }
  | _ => none }
def counterOrdersRow : OpenClaim := { program := "ytgeebnpnjimcjaa", sum := "25c839e6b2d833d07a82543dabd5c17e5bbc7398fe99f81172cc05f85b3a9207", func := "compactor/compactorlaw08.CounterOrders", spec := "counterOrders", unfollowed := true, recurses := true, apart := false }
def CounterOrdersSaid : Prop := counterOrdersRow.holds Try.pinned (OpenSpec.ofChange counterOrdersSpec)

/-- ITS FALSE NEIGHBOUR: 'it returns false'. Refute it at one input. -/
def counterOrdersWrong : ChangeSpec := { name := "counterOrders", fn := fun _ => fun
  | [d1, d2, d3] => { results := [.lit (.bool false)], args := [d1, d2, d3] }
  | _ => none }
def CounterOrdersWrongFalsely : Prop := counterOrdersRow.holds Try.pinned (OpenSpec.ofChange counterOrdersWrong)

/-- 'compactorlaw08.CounterSettles': WHATEVER THE INPUT: true; the input reads as it did. -/
def counterSettlesSpec : ChangeSpec := { name := "counterSettles", fn := fun _ => fun
  | [d1, d2, d3] => { results := [.lit (.bool true)], args := [d1, d2, d3] }
  | _ => none }
def counterSettlesRow : OpenClaim := { program := "ytgeebnpnjimcjaa", sum := "25c839e6b2d833d07a82543dabd5c17e5bbc7398fe99f81172cc05f85b3a9207", func := "compactor/compactorlaw08.CounterSettles", spec := "counterSettles", unfollowed := true, recurses := true, apart := false }
def CounterSettlesSaid : Prop := counterSettlesRow.holds Try.pinned (OpenSpec.ofChange counterSettlesSpec)

/-- ITS FALSE NEIGHBOUR: 'it returns false'. Refute it at one input. -/
def counterSettlesWrong : ChangeSpec := { name := "counterSettles", fn := fun _ => fun
  | [d1, d2, d3] => { results := [.lit (.bool false)], args := [d1, d2, d3] }
  | _ => none }
def CounterSettlesWrongFalsely : Prop := counterSettlesRow.holds Try.pinned (OpenSpec.ofChange counterSettlesWrong)

/-- 'compactorlaw08.CounterTables': WHATEVER THE INPUT: true; the input reads as it did. -/
def counterTablesSpec : ChangeSpec := { name := "counterTables", fn := fun _ => fun
  | [d] => { results := [.lit (.bool true)], args := [d] }
  | _ => none }
def counterTablesRow : OpenClaim := { program := "ytgeebnpnjimcjaa", sum := "25c839e6b2d833d07a82543dabd5c17e5bbc7398fe99f81172cc05f85b3a9207", func := "compactor/compactorlaw08.CounterTables", spec := "counterTables", unfollowed := true, recurses := true, apart := false }
def CounterTablesSaid : Prop := counterTablesRow.holds Try.pinned (OpenSpec.ofChange counterTablesSpec)

/-- ITS FALSE NEIGHBOUR: 'it returns false'. Refute it at one input. -/
def counterTablesWrong : ChangeSpec := { name := "counterTables", fn := fun _ => fun
  | [d] => { results := [.lit (.bool false)], args := [d] }
  | _ => none }
def CounterTablesWrongFalsely : Prop := counterTablesRow.holds Try.pinned (OpenSpec.ofChange counterTablesWrong)

/- THE SECOND FORM. 'bulk': how many values and letters a reading holds, each counted each time it is reached (what is shared counts as often as it is met; a slice's spare places count too). A statement '..UptoSaid' is the law's where the arguments, and the package variables that the reading takes, are together of bulk at most 1048576: NARROWER than '..Said'. Prove '..Said' where nothing that the law and all that it calls make is longer than what came in: it says more and counts as full. Else prove '..UptoSaid'. A law counts once. -/
mutual
def uptoBulk {H : Type} : DataW H → Nat
  | .lit (.string bytes) => bytes.length + 1
  | .lit _ => 1
  | .nil => 1
  | .ptr d => uptoBulk d + 1
  | .slice elems spare => uptoBulkAll elems + uptoBulkAll spare + 1
  | .agg parts => uptoBulkAll parts + 1
  | .iface _ d => uptoBulk d + 1
  | .map entries => uptoBulkEntries entries + 1
  | .held _ => 1
def uptoBulkAll {H : Type} : List (DataW H) → Nat
  | [] => 0
  | d :: r => uptoBulk d + uptoBulkAll r
def uptoBulkEntries {H : Type} : List (Lit × DataW H) → Nat
  | [] => 0
  | x :: r => uptoBulkEntry x + uptoBulkEntries r
def uptoBulkEntry {H : Type} : Lit × DataW H → Nat
  | (.string bytes, d) => bytes.length + uptoBulk d + 1
  | (_, d) => uptoBulk d + 1
 end
def uptoSmall : (H : Type) → List (DataW H) → Bool := fun _ ds => decide (uptoBulkAll ds ≤ 1048576)
def OpenSpec.upto (s : _root_.Go.ChangeSpec) : _root_.Go.OpenSpec := { _root_.Go.OpenSpec.ofChange s with cond := some uptoSmall }

/-- 'compactorlaw08.CounterMakes', WHERE WHAT IT READS IS OF BULK AT MOST 1048576: true; the input reads as it did. -/
def counterMakesUptoRow : OpenClaim := { program := "ytgeebnpnjimcjaa", sum := "25c839e6b2d833d07a82543dabd5c17e5bbc7398fe99f81172cc05f85b3a9207", func := "compactor/compactorlaw08.CounterMakes", spec := "counterMakes", unfollowed := true, recurses := true, apart := false, narrowed := true }
def CounterMakesUptoSaid : Prop := counterMakesUptoRow.holds Try.pinned (OpenSpec.upto counterMakesSpec)

/-- 'compactorlaw08.CounterUpdates', WHERE WHAT IT READS IS OF BULK AT MOST 1048576: true; the input reads as it did. -/
def counterUpdatesUptoRow : OpenClaim := { program := "ytgeebnpnjimcjaa", sum := "25c839e6b2d833d07a82543dabd5c17e5bbc7398fe99f81172cc05f85b3a9207", func := "compactor/compactorlaw08.CounterUpdates", spec := "counterUpdates", unfollowed := true, recurses := true, apart := false, narrowed := true }
def CounterUpdatesUptoSaid : Prop := counterUpdatesUptoRow.holds Try.pinned (OpenSpec.upto counterUpdatesSpec)

/-- 'compactorlaw08.CounterKeeps', WHERE WHAT IT READS IS OF BULK AT MOST 1048576: true; the input reads as it did. -/
def counterKeepsUptoRow : OpenClaim := { program := "ytgeebnpnjimcjaa", sum := "25c839e6b2d833d07a82543dabd5c17e5bbc7398fe99f81172cc05f85b3a9207", func := "compactor/compactorlaw08.CounterKeeps", spec := "counterKeeps", unfollowed := true, recurses := true, apart := false, narrowed := true }
def CounterKeepsUptoSaid : Prop := counterKeepsUptoRow.holds Try.pinned (OpenSpec.upto counterKeepsSpec)

/-- 'compactorlaw08.CounterMirrors', WHERE WHAT IT READS IS OF BULK AT MOST 1048576: true; the input reads as it did. -/
def counterMirrorsUptoRow : OpenClaim := { program := "ytgeebnpnjimcjaa", sum := "25c839e6b2d833d07a82543dabd5c17e5bbc7398fe99f81172cc05f85b3a9207", func := "compactor/compactorlaw08.CounterMirrors", spec := "counterMirrors", unfollowed := true, recurses := true, apart := false, narrowed := true }
def CounterMirrorsUptoSaid : Prop := counterMirrorsUptoRow.holds Try.pinned (OpenSpec.upto counterMirrorsSpec)

/-- 'compactorlaw08.CounterOrders', WHERE WHAT IT READS IS OF BULK AT MOST 1048576: true; the input reads as it did. -/
def counterOrdersUptoRow : OpenClaim := { program := "ytgeebnpnjimcjaa", sum := "25c839e6b2d833d07a82543dabd5c17e5bbc7398fe99f81172cc05f85b3a9207", func := "compactor/compactorlaw08.CounterOrders", spec := "counterOrders", unfollowed := true, recurses := true, apart := false, narrowed := true }
def CounterOrdersUptoSaid : Prop := counterOrdersUptoRow.holds Try.pinned (OpenSpec.upto counterOrdersSpec)

/-- 'compactorlaw08.CounterSettles', WHERE WHAT IT READS IS OF BULK AT MOST 1048576: true; the input reads as it did. -/
def counterSettlesUptoRow : OpenClaim := { program := "ytgeebnpnjimcjaa", sum := "25c839e6b2d833d07a82543dabd5c17e5bbc7398fe99f81172cc05f85b3a9207", func := "compactor/compactorlaw08.CounterSettles", spec := "counterSettles", unfollowed := true, recurses := true, apart := false, narrowed := true }
def CounterSettlesUptoSaid : Prop := counterSettlesUptoRow.holds Try.pinned (OpenSpec.upto counterSettlesSpec)

/-- 'compactorlaw08.CounterTables', WHERE WHAT IT READS IS OF BULK AT MOST 1048576: true; the input reads as it did. -/
def counterTablesUptoRow : OpenClaim := { program := "ytgeebnpnjimcjaa", sum := "25c839e6b2d833d07a82543dabd5c17e5bbc7398fe99f81172cc05f85b3a9207", func := "compactor/compactorlaw08.CounterTables", spec := "counterTables", unfollowed := true, recurses := true, apart := false, narrowed := true }
def CounterTablesUptoSaid : Prop := counterTablesUptoRow.holds Try.pinned (OpenSpec.upto counterTablesSpec)

end Rows
end Go.Proofs.Ytgeebnpnjimcjaa
