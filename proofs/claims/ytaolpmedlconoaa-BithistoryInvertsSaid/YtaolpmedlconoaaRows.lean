/-
  No cell of these rows narrows 'for every input' (looked for: loops, veiled, ifaces, maps, wideKeys, modest, calm, conditions, laid).
  DERIVED. THE GIVEN ROWS OF THIS SEAT. 7 by the template 'for every input the law returns true; each argument reads behind the call as it read before'; 0 by the template 'total and deterministic' (their statements: YtaolpmedlconoaaTotals.lean).
  GIVEN WITH THE SEED: the statements are not yours to turn. If you find one false, say at which input.
  Laid BY PROGRAM, IN A SANDBOX (cutbox-rows.mjs): the forced cells as the released guide's own fill.sh prints them over the translation b3fe917cf680fccb… (all of the seat's roots in one cut). By AI agents, Wed Nov 11 2026. No macro, syntax, notation, axiom, sorry.
-/
import Derived.Test.YtaolpmedlconoaaChecked
import GoSem.Claim
import GoSem.ClaimJoined
import GoSem.ClaimMapViews
import Derived.JoinedTies
import Derived.KernelRfl
namespace Go.Proofs.Ytaolpmedlconoaa
/- THE CELL 'sum', in the pinned program and in every row, IS THE sha256 OF THE DUMP (.gsa) THAT YtaolpmedlconoaaProg.lean LOADS. Nothing in Lean hashes anything: it is a label: what it is worth is what the hold of that sum in a sandbox is worth. -/
noncomputable def Try.pinned : Pinned := { name := "ytaolpmedlconoaa", sum := "b3fe917cf680fccbcaea95904d9ae87ba94dcee45bd4dced5ae64e0b590f8767", checked := Try.checked }
namespace Rows
def none {H : Type} : Left H := { results := [], args := [] }

/-- 'compactorlaw09.BithistoryNext': WHATEVER THE INPUT: true; the input reads as it did. -/
def bithistoryNextSpec : ChangeSpec := { name := "bithistoryNext", fn := fun _ => fun
  | [d1, d2] => { results := [.lit (.bool true)], args := [d1, d2] }
  | _ => none }
def bithistoryNextRow : OpenClaim := { program := "ytaolpmedlconoaa", sum := "b3fe917cf680fccbcaea95904d9ae87ba94dcee45bd4dced5ae64e0b590f8767", func := "compactor/compactorlaw09.BithistoryNext", spec := "bithistoryNext", unfollowed := true, recurses := true, plainKeys := false, apart := false }
def BithistoryNextSaid : Prop := bithistoryNextRow.holds Try.pinned (OpenSpec.ofChange bithistoryNextSpec)

/-- ITS FALSE NEIGHBOUR: 'it returns false'. Refute it at one input. -/
def bithistoryNextWrong : ChangeSpec := { name := "bithistoryNext", fn := fun _ => fun
  | [d1, d2] => { results := [.lit (.bool false)], args := [d1, d2] }
  | _ => none }
def BithistoryNextWrongFalsely : Prop := bithistoryNextRow.holds Try.pinned (OpenSpec.ofChange bithistoryNextWrong)

/-- 'compactorlaw09.BithistoryFollows': WHATEVER THE INPUT: true; the input reads as it did. -/
def bithistoryFollowsSpec : ChangeSpec := { name := "bithistoryFollows", fn := fun _ => fun
  | [d1, d2, d3] => { results := [.lit (.bool true)], args := [d1, d2, d3] }
  | _ => none }
def bithistoryFollowsRow : OpenClaim := { program := "ytaolpmedlconoaa", sum := "b3fe917cf680fccbcaea95904d9ae87ba94dcee45bd4dced5ae64e0b590f8767", func := "compactor/compactorlaw09.BithistoryFollows", spec := "bithistoryFollows", unfollowed := true, recurses := true, plainKeys := false, apart := false }
def BithistoryFollowsSaid : Prop := bithistoryFollowsRow.holds Try.pinned (OpenSpec.ofChange bithistoryFollowsSpec)

/-- ITS FALSE NEIGHBOUR: 'it returns false'. Refute it at one input. -/
def bithistoryFollowsWrong : ChangeSpec := { name := "bithistoryFollows", fn := fun _ => fun
  | [d1, d2, d3] => { results := [.lit (.bool false)], args := [d1, d2, d3] }
  | _ => none }
def BithistoryFollowsWrongFalsely : Prop := bithistoryFollowsRow.holds Try.pinned (OpenSpec.ofChange bithistoryFollowsWrong)

/-- 'compactorlaw09.BithistoryForgets': WHATEVER THE INPUT: true; the input reads as it did. -/
def bithistoryForgetsSpec : ChangeSpec := { name := "bithistoryForgets", fn := fun _ => fun
  | [d1, d2] => { results := [.lit (.bool true)], args := [d1, d2] }
  | _ => none }
def bithistoryForgetsRow : OpenClaim := { program := "ytaolpmedlconoaa", sum := "b3fe917cf680fccbcaea95904d9ae87ba94dcee45bd4dced5ae64e0b590f8767", func := "compactor/compactorlaw09.BithistoryForgets", spec := "bithistoryForgets", unfollowed := true, recurses := true, plainKeys := false, apart := false }
def BithistoryForgetsSaid : Prop := bithistoryForgetsRow.holds Try.pinned (OpenSpec.ofChange bithistoryForgetsSpec)

/-- ITS FALSE NEIGHBOUR: 'it returns false'. Refute it at one input. -/
def bithistoryForgetsWrong : ChangeSpec := { name := "bithistoryForgets", fn := fun _ => fun
  | [d1, d2] => { results := [.lit (.bool false)], args := [d1, d2] }
  | _ => none }
def BithistoryForgetsWrongFalsely : Prop := bithistoryForgetsRow.holds Try.pinned (OpenSpec.ofChange bithistoryForgetsWrong)

/-- 'compactorlaw09.BithistoryMirrors': WHATEVER THE INPUT: true; the input reads as it did. -/
def bithistoryMirrorsSpec : ChangeSpec := { name := "bithistoryMirrors", fn := fun _ => fun
  | [d] => { results := [.lit (.bool true)], args := [d] }
  | _ => none }
def bithistoryMirrorsRow : OpenClaim := { program := "ytaolpmedlconoaa", sum := "b3fe917cf680fccbcaea95904d9ae87ba94dcee45bd4dced5ae64e0b590f8767", func := "compactor/compactorlaw09.BithistoryMirrors", spec := "bithistoryMirrors", unfollowed := true, recurses := true, plainKeys := false, apart := false }
def BithistoryMirrorsSaid : Prop := bithistoryMirrorsRow.holds Try.pinned (OpenSpec.ofChange bithistoryMirrorsSpec)

/-- ITS FALSE NEIGHBOUR: 'it returns false'. Refute it at one input. -/
def bithistoryMirrorsWrong : ChangeSpec := { name := "bithistoryMirrors", fn := fun _ => fun
  | [d] => { results := [.lit (.bool false)], args := [d] }
  | _ => none }
def BithistoryMirrorsWrongFalsely : Prop := bithistoryMirrorsRow.holds Try.pinned (OpenSpec.ofChange bithistoryMirrorsWrong)

/-- 'compactorlaw09.BithistoryCounts': WHATEVER THE INPUT: true; the input reads as it did. -/
def bithistoryCountsSpec : ChangeSpec := { name := "bithistoryCounts", fn := fun _ => fun
  | [d] => { results := [.lit (.bool true)], args := [d] }
  | _ => none }
def bithistoryCountsRow : OpenClaim := { program := "ytaolpmedlconoaa", sum := "b3fe917cf680fccbcaea95904d9ae87ba94dcee45bd4dced5ae64e0b590f8767", func := "compactor/compactorlaw09.BithistoryCounts", spec := "bithistoryCounts", unfollowed := true, recurses := true, plainKeys := false, apart := false }
def BithistoryCountsSaid : Prop := bithistoryCountsRow.holds Try.pinned (OpenSpec.ofChange bithistoryCountsSpec)

/-- ITS FALSE NEIGHBOUR: 'it returns false'. Refute it at one input. -/
def bithistoryCountsWrong : ChangeSpec := { name := "bithistoryCounts", fn := fun _ => fun
  | [d] => { results := [.lit (.bool false)], args := [d] }
  | _ => none }
def BithistoryCountsWrongFalsely : Prop := bithistoryCountsRow.holds Try.pinned (OpenSpec.ofChange bithistoryCountsWrong)

/-- 'compactorlaw09.BithistoryStates': WHATEVER THE INPUT: true; the input reads as it did. -/
def bithistoryStatesSpec : ChangeSpec := { name := "bithistoryStates", fn := fun _ => fun
  | [d1, d2, d3] => { results := [.lit (.bool true)], args := [d1, d2, d3] }
  | _ => none }
def bithistoryStatesRow : OpenClaim := { program := "ytaolpmedlconoaa", sum := "b3fe917cf680fccbcaea95904d9ae87ba94dcee45bd4dced5ae64e0b590f8767", func := "compactor/compactorlaw09.BithistoryStates", spec := "bithistoryStates", unfollowed := true, recurses := true, plainKeys := false, apart := false }
def BithistoryStatesSaid : Prop := bithistoryStatesRow.holds Try.pinned (OpenSpec.ofChange bithistoryStatesSpec)

/-- ITS FALSE NEIGHBOUR: 'it returns false'. Refute it at one input. -/
def bithistoryStatesWrong : ChangeSpec := { name := "bithistoryStates", fn := fun _ => fun
  | [d1, d2, d3] => { results := [.lit (.bool false)], args := [d1, d2, d3] }
  | _ => none }
def BithistoryStatesWrongFalsely : Prop := bithistoryStatesRow.holds Try.pinned (OpenSpec.ofChange bithistoryStatesWrong)

/-- 'compactorlaw09.BithistoryInverts': WHATEVER THE INPUT: true; the input reads as it did. -/
def bithistoryInvertsSpec : ChangeSpec := { name := "bithistoryInverts", fn := fun _ => fun
  | [d] => { results := [.lit (.bool true)], args := [d] }
  | _ => none }
def bithistoryInvertsRow : OpenClaim := { program := "ytaolpmedlconoaa", sum := "b3fe917cf680fccbcaea95904d9ae87ba94dcee45bd4dced5ae64e0b590f8767", func := "compactor/compactorlaw09.BithistoryInverts", spec := "bithistoryInverts", unfollowed := true, recurses := true, plainKeys := false, apart := false }
def BithistoryInvertsSaid : Prop := bithistoryInvertsRow.holds Try.pinned (OpenSpec.ofChange bithistoryInvertsSpec)

/-- ITS FALSE NEIGHBOUR: 'it returns false'. Refute it at one input. -/
def bithistoryInvertsWrong : ChangeSpec := { name := "bithistoryInverts", fn := fun _ => fun
  | [d] => { results := [.lit (.bool false)], args := [d] }
  | _ => none }
def BithistoryInvertsWrongFalsely : Prop := bithistoryInvertsRow.holds Try.pinned (OpenSpec.ofChange bithistoryInvertsWrong)

/- THE SECOND FORM. 'bulk': how many values and letters a reading holds, each counted each time it is reached (what is shared counts as often as it is met; a slice's spare places count too). A statement '..UptoSaid' is the law's where the arguments, and the package variables that the reading takes, are together of bulk at most 1048576: NARROWER than '..Said'. Prove '..Said' where nothing that the law and all that it calls make is longer than what came in: it says more and counts as full. Else prove '..UptoSaid'. A law counts once. -/
mutual
def uptoBulk {H : Type} : DataW H → Nat
  | .lit (.string bytes) => bytes.length + 1
  | .lit _ => 1
  | .nil => 1
  | .ptr d => uptoBulk d + 1
  | .slice elems spare => uptoBulkAll elems + uptoBulkAll spare + 1
  | .agg parts => uptoBulkAll parts + 1
  | .iface _ d => uptoBulk d + 1
  | .map entries => uptoBulkEntries entries + 1
  | .held _ => 1
def uptoBulkAll {H : Type} : List (DataW H) → Nat
  | [] => 0
  | d :: r => uptoBulk d + uptoBulkAll r
def uptoBulkEntries {H : Type} : List (Lit × DataW H) → Nat
  | [] => 0
  | x :: r => uptoBulkEntry x + uptoBulkEntries r
def uptoBulkEntry {H : Type} : Lit × DataW H → Nat
  | (.string bytes, d) => bytes.length + uptoBulk d + 1
  | (_, d) => uptoBulk d + 1
 end
def uptoSmall : (H : Type) → List (DataW H) → Bool := fun _ ds => decide (uptoBulkAll ds ≤ 1048576)
def OpenSpec.upto (s : _root_.Go.ChangeSpec) : _root_.Go.OpenSpec := { _root_.Go.OpenSpec.ofChange s with cond := some uptoSmall }

/-- 'compactorlaw09.BithistoryNext', WHERE WHAT IT READS IS OF BULK AT MOST 1048576: true; the input reads as it did. -/
def bithistoryNextUptoRow : OpenClaim := { program := "ytaolpmedlconoaa", sum := "b3fe917cf680fccbcaea95904d9ae87ba94dcee45bd4dced5ae64e0b590f8767", func := "compactor/compactorlaw09.BithistoryNext", spec := "bithistoryNext", unfollowed := true, recurses := true, plainKeys := false, apart := false, narrowed := true }
def BithistoryNextUptoSaid : Prop := bithistoryNextUptoRow.holds Try.pinned (OpenSpec.upto bithistoryNextSpec)

/-- 'compactorlaw09.BithistoryFollows', WHERE WHAT IT READS IS OF BULK AT MOST 1048576: true; the input reads as it did. -/
def bithistoryFollowsUptoRow : OpenClaim := { program := "ytaolpmedlconoaa", sum := "b3fe917cf680fccbcaea95904d9ae87ba94dcee45bd4dced5ae64e0b590f8767", func := "compactor/compactorlaw09.BithistoryFollows", spec := "bithistoryFollows", unfollowed := true, recurses := true, plainKeys := false, apart := false, narrowed := true }
def BithistoryFollowsUptoSaid : Prop := bithistoryFollowsUptoRow.holds Try.pinned (OpenSpec.upto bithistoryFollowsSpec)

/-- 'compactorlaw09.BithistoryForgets', WHERE WHAT IT READS IS OF BULK AT MOST 1048576: true; the input reads as it did. -/
def bithistoryForgetsUptoRow : OpenClaim := { program := "ytaolpmedlconoaa", sum := "b3fe917cf680fccbcaea95904d9ae87ba94dcee45bd4dced5ae64e0b590f8767", func := "compactor/compactorlaw09.BithistoryForgets", spec := "bithistoryForgets", unfollowed := true, recurses := true, plainKeys := false, apart := false, narrowed := true }
def BithistoryForgetsUptoSaid : Prop := bithistoryForgetsUptoRow.holds Try.pinned (OpenSpec.upto bithistoryForgetsSpec)

/-- 'compactorlaw09.BithistoryMirrors', WHERE WHAT IT READS IS OF BULK AT MOST 1048576: true; the input reads as it did. -/
def bithistoryMirrorsUptoRow : OpenClaim := { program := "ytaolpmedlconoaa", sum := "b3fe917cf680fccbcaea95904d9ae87ba94dcee45bd4dced5ae64e0b590f8767", func := "compactor/compactorlaw09.BithistoryMirrors", spec := "bithistoryMirrors", unfollowed := true, recurses := true, plainKeys := false, apart := false, narrowed := true }
def BithistoryMirrorsUptoSaid : Prop := bithistoryMirrorsUptoRow.holds Try.pinned (OpenSpec.upto bithistoryMirrorsSpec)

/-- 'compactorlaw09.BithistoryCounts', WHERE WHAT IT READS IS OF BULK AT MOST 1048576: true; the input reads as it did. -/
def bithistoryCountsUptoRow : OpenClaim := { program := "ytaolpmedlconoaa", sum := "b3fe917cf680fccbcaea95904d9ae87ba94dcee45bd4dced5ae64e0b590f8767", func := "compactor/compactorlaw09.BithistoryCounts", spec := "bithistoryCounts", unfollowed := true, recurses := true, plainKeys := false, apart := false, narrowed := true }
def BithistoryCountsUptoSaid : Prop := bithistoryCountsUptoRow.holds Try.pinned (OpenSpec.upto bithistoryCountsSpec)

/-- 'compactorlaw09.BithistoryStates', WHERE WHAT IT READS IS OF BULK AT MOST 1048576: true; the input reads as it did. -/
def bithistoryStatesUptoRow : OpenClaim := { program := "ytaolpmedlconoaa", sum := "b3fe917cf680fccbcaea95904d9ae87ba94dcee45bd4dced5ae64e0b590f8767", func := "compactor/compactorlaw09.BithistoryStates", spec := "bithistoryStates", unfollowed := true, recurses := true, plainKeys := false, apart := false, narrowed := true }
def BithistoryStatesUptoSaid : Prop := bithistoryStatesUptoRow.holds Try.pinned (OpenSpec.upto bithistoryStatesSpec)

/-- 'compactorlaw09.BithistoryInverts', WHERE WHAT IT READS IS OF BULK AT MOST 1048576: true; the input reads as it did. -/
def bithistoryInvertsUptoRow : OpenClaim := { program := "ytaolpmedlconoaa", sum := "b3fe917cf680fccbcaea95904d9ae87ba94dcee45bd4dced5ae64e0b590f8767", func := "compactor/compactorlaw09.BithistoryInverts", spec := "bithistoryInverts", unfollowed := true, recurses := true, plainKeys := false, apart := false, narrowed := true }
def BithistoryInvertsUptoSaid : Prop := bithistoryInvertsUptoRow.holds Try.pinned (OpenSpec.upto bithistoryInvertsSpec)

end Rows
end Go.Proofs.Ytaolpmedlconoaa
