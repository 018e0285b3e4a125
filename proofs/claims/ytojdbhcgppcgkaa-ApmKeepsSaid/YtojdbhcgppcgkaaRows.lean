/-
  No cell of these rows narrows 'for every input' (looked for: loops, veiled, ifaces, maps, wideKeys, modest, calm, conditions, laid).
  DERIVED. THE GIVEN ROWS OF THIS SEAT. 7 by the template 'for every input the law returns true; each argument reads behind the call as it read before'; 0 by the template 'total and deterministic' (their statements: YtojdbhcgppcgkaaTotals.lean).
  GIVEN WITH THE SEED: the statements are not yours to turn. If you find one false, say at which input.
  Laid BY PROGRAM, IN A SANDBOX (cutbox-rows.mjs): the forced cells as the released guide's own fill.sh prints them over the translation 515146706365b253… (all of the seat's roots in one cut). By AI agents, Wed Nov 11 2026. No macro, syntax, notation, axiom, sorry.
-/
import Derived.Test.YtojdbhcgppcgkaaChecked
import GoSem.Claim
import GoSem.ClaimJoined
import GoSem.ClaimMapViews
import Derived.JoinedTies
import Derived.KernelRfl
namespace Go.Proofs.Ytojdbhcgppcgkaa
/- THE CELL 'sum', in the pinned program and in every row, IS THE sha256 OF THE DUMP (.gsa) THAT YtojdbhcgppcgkaaProg.lean LOADS. Nothing in Lean hashes anything: it is a label: what it is worth is what the hold of that sum in a sandbox is worth. -/
noncomputable def Try.pinned : Pinned := { name := "ytojdbhcgppcgkaa", sum := "515146706365b2539c081047b742cd0f745c79b59c4cc84b165681b70ecfcd4b", checked := Try.checked }
namespace Rows
def none {H : Type} : Left H := { results := [], args := [] }

/-- 'compactorlaw11.ApmMakes': WHATEVER THE INPUT: true; the input reads as it did. -/
def apmMakesSpec : ChangeSpec := { name := "apmMakes", fn := fun _ => fun
  | [d1, d2] => { results := [.lit (.bool true)], args := [d1, d2] }
  | _ => none }
def apmMakesRow : OpenClaim := { program := "ytojdbhcgppcgkaa", sum := "515146706365b2539c081047b742cd0f745c79b59c4cc84b165681b70ecfcd4b", func := "compactor/compactorlaw11.ApmMakes", spec := "apmMakes", unfollowed := true, recurses := true, apart := false }
def ApmMakesSaid : Prop := apmMakesRow.holds Try.pinned (OpenSpec.ofChange apmMakesSpec)

/-- ITS FALSE NEIGHBOUR: 'it returns false'. Refute it at one input. -/
def apmMakesWrong : ChangeSpec := { name := "apmMakes", fn := fun _ => fun
  | [d1, d2] => { results := [.lit (.bool false)], args := [d1, d2] }
  | _ => none }
def ApmMakesWrongFalsely : Prop := apmMakesRow.holds Try.pinned (OpenSpec.ofChange apmMakesWrong)

/-- 'compactorlaw11.ApmRefines': WHATEVER THE INPUT: true; the input reads as it did. -/
def apmRefinesSpec : ChangeSpec := { name := "apmRefines", fn := fun _ => fun
  | [d1, d2, d3] => { results := [.lit (.bool true)], args := [d1, d2, d3] }
  | _ => none }
def apmRefinesRow : OpenClaim := { program := "ytojdbhcgppcgkaa", sum := "515146706365b2539c081047b742cd0f745c79b59c4cc84b165681b70ecfcd4b", func := "compactor/compactorlaw11.ApmRefines", spec := "apmRefines", unfollowed := true, recurses := true, apart := false }
def ApmRefinesSaid : Prop := apmRefinesRow.holds Try.pinned (OpenSpec.ofChange apmRefinesSpec)

/-- ITS FALSE NEIGHBOUR: 'it returns false'. Refute it at one input. -/
def apmRefinesWrong : ChangeSpec := { name := "apmRefines", fn := fun _ => fun
  | [d1, d2, d3] => { results := [.lit (.bool false)], args := [d1, d2, d3] }
  | _ => none }
def ApmRefinesWrongFalsely : Prop := apmRefinesRow.holds Try.pinned (OpenSpec.ofChange apmRefinesWrong)

/-- 'compactorlaw11.ApmUpdates': WHATEVER THE INPUT: true; the input reads as it did. -/
def apmUpdatesSpec : ChangeSpec := { name := "apmUpdates", fn := fun _ => fun
  | [d1, d2] => { results := [.lit (.bool true)], args := [d1, d2] }
  | _ => none }
def apmUpdatesRow : OpenClaim := { program := "ytojdbhcgppcgkaa", sum := "515146706365b2539c081047b742cd0f745c79b59c4cc84b165681b70ecfcd4b", func := "compactor/compactorlaw11.ApmUpdates", spec := "apmUpdates", unfollowed := true, recurses := true, apart := false }
def ApmUpdatesSaid : Prop := apmUpdatesRow.holds Try.pinned (OpenSpec.ofChange apmUpdatesSpec)

/-- ITS FALSE NEIGHBOUR: 'it returns false'. Refute it at one input. -/
def apmUpdatesWrong : ChangeSpec := { name := "apmUpdates", fn := fun _ => fun
  | [d1, d2] => { results := [.lit (.bool false)], args := [d1, d2] }
  | _ => none }
def ApmUpdatesWrongFalsely : Prop := apmUpdatesRow.holds Try.pinned (OpenSpec.ofChange apmUpdatesWrong)

/-- 'compactorlaw11.ApmStarts': WHATEVER THE INPUT: true; the input reads as it did. -/
def apmStartsSpec : ChangeSpec := { name := "apmStarts", fn := fun _ => fun
  | [d] => { results := [.lit (.bool true)], args := [d] }
  | _ => none }
def apmStartsRow : OpenClaim := { program := "ytojdbhcgppcgkaa", sum := "515146706365b2539c081047b742cd0f745c79b59c4cc84b165681b70ecfcd4b", func := "compactor/compactorlaw11.ApmStarts", spec := "apmStarts", unfollowed := true, recurses := true, apart := false }
def ApmStartsSaid : Prop := apmStartsRow.holds Try.pinned (OpenSpec.ofChange apmStartsSpec)

/-- ITS FALSE NEIGHBOUR: 'it returns false'. Refute it at one input. -/
def apmStartsWrong : ChangeSpec := { name := "apmStarts", fn := fun _ => fun
  | [d] => { results := [.lit (.bool false)], args := [d] }
  | _ => none }
def ApmStartsWrongFalsely : Prop := apmStartsRow.holds Try.pinned (OpenSpec.ofChange apmStartsWrong)

/-- 'compactorlaw11.ApmRises': WHATEVER THE INPUT: true; the input reads as it did. -/
def apmRisesSpec : ChangeSpec := { name := "apmRises", fn := fun _ => fun
  | [d1, d2] => { results := [.lit (.bool true)], args := [d1, d2] }
  | _ => none }
def apmRisesRow : OpenClaim := { program := "ytojdbhcgppcgkaa", sum := "515146706365b2539c081047b742cd0f745c79b59c4cc84b165681b70ecfcd4b", func := "compactor/compactorlaw11.ApmRises", spec := "apmRises", unfollowed := true, recurses := true, apart := false }
def ApmRisesSaid : Prop := apmRisesRow.holds Try.pinned (OpenSpec.ofChange apmRisesSpec)

/-- ITS FALSE NEIGHBOUR: 'it returns false'. Refute it at one input. -/
def apmRisesWrong : ChangeSpec := { name := "apmRises", fn := fun _ => fun
  | [d1, d2] => { results := [.lit (.bool false)], args := [d1, d2] }
  | _ => none }
def ApmRisesWrongFalsely : Prop := apmRisesRow.holds Try.pinned (OpenSpec.ofChange apmRisesWrong)

/-- 'compactorlaw11.ApmLearns': WHATEVER THE INPUT: true; the input reads as it did. -/
def apmLearnsSpec : ChangeSpec := { name := "apmLearns", fn := fun _ => fun
  | [d1, d2] => { results := [.lit (.bool true)], args := [d1, d2] }
  | _ => none }
def apmLearnsRow : OpenClaim := { program := "ytojdbhcgppcgkaa", sum := "515146706365b2539c081047b742cd0f745c79b59c4cc84b165681b70ecfcd4b", func := "compactor/compactorlaw11.ApmLearns", spec := "apmLearns", unfollowed := true, recurses := true, apart := false }
def ApmLearnsSaid : Prop := apmLearnsRow.holds Try.pinned (OpenSpec.ofChange apmLearnsSpec)

/-- ITS FALSE NEIGHBOUR: 'it returns false'. Refute it at one input. -/
def apmLearnsWrong : ChangeSpec := { name := "apmLearns", fn := fun _ => fun
  | [d1, d2] => { results := [.lit (.bool false)], args := [d1, d2] }
  | _ => none }
def ApmLearnsWrongFalsely : Prop := apmLearnsRow.holds Try.pinned (OpenSpec.ofChange apmLearnsWrong)

/-- 'compactorlaw11.ApmKeeps': WHATEVER THE INPUT: true; the input reads as it did. -/
def apmKeepsSpec : ChangeSpec := { name := "apmKeeps", fn := fun _ => fun
  | [d1, d2, d3] => { results := [.lit (.bool true)], args := [d1, d2, d3] }
  | _ => none }
def apmKeepsRow : OpenClaim := { program := "ytojdbhcgppcgkaa", sum := "515146706365b2539c081047b742cd0f745c79b59c4cc84b165681b70ecfcd4b", func := "compactor/compactorlaw11.ApmKeeps", spec := "apmKeeps", unfollowed := true, recurses := true, apart := false }
def ApmKeepsSaid : Prop := apmKeepsRow.holds Try.pinned (OpenSpec.ofChange apmKeepsSpec)

/-- ITS FALSE NEIGHBOUR: 'it returns false'. Refute it at one input. -/
def apmKeepsWrong : ChangeSpec := { name := "apmKeeps", fn := fun _ => fun
  | [d1, d2, d3] => { results := [.lit (.bool false)], args := [d1, d2, d3] }
  | _ => none }
def ApmKeepsWrongFalsely : Prop := apmKeepsRow.holds Try.pinned (OpenSpec.ofChange apmKeepsWrong)

/- THE SECOND FORM. 'bulk': how many values and letters a reading holds, each counted each time it is reached (what is shared counts as often as it is met; a slice's spare places count too). A statement '..UptoSaid' is the law's where the arguments, and the package variables that the reading takes, are together of bulk at most 1048576: NARROWER than '..Said'. Prove '..Said' where nothing that the law and all that it calls make is longer than what came in: it says more and counts as full. Else prove '..UptoSaid'. A law counts once. -/
mutual
def uptoBulk {H : Type} : DataW H → Nat
  | .lit (.string bytes) => bytes.length + 1
  | .lit _ => 1
  | .nil => 1
  | .ptr d => uptoBulk d + 1
  | .slice elems spare => uptoBulkAll elems + uptoBulkAll spare + 1
  | .agg parts => uptoBulkAll parts + 1
  | .iface _ d => uptoBulk d + 1
  | .map entries => uptoBulkEntries entries + 1
  | .held _ => 1
def uptoBulkAll {H : Type} : List (DataW H) → Nat
  | [] => 0
  | d :: r => uptoBulk d + uptoBulkAll r
def uptoBulkEntries {H : Type} : List (Lit × DataW H) → Nat
  | [] => 0
  | x :: r => uptoBulkEntry x + uptoBulkEntries r
def uptoBulkEntry {H : Type} : Lit × DataW H → Nat
  | (.string bytes, d) => bytes.length + uptoBulk d + 1
  | (_, d) => uptoBulk d + 1
 end
def uptoSmall : (H : Type) → List (DataW H) → Bool := fun _ ds => decide (uptoBulkAll ds ≤ 1048576)
def OpenSpec.upto (s : _root_.Go.ChangeSpec) : _root_.Go.OpenSpec := { _root_.Go.OpenSpec.ofChange s with cond := some uptoSmall }

/-- 'compactorlaw11.ApmMakes', WHERE WHAT IT READS IS OF BULK AT MOST 1048576: true; the input reads as it did. -/
def apmMakesUptoRow : OpenClaim := { program := "ytojdbhcgppcgkaa", sum := "515146706365b2539c081047b742cd0f745c79b59c4cc84b165681b70ecfcd4b", func := "compactor/compactorlaw11.ApmMakes", spec := "apmMakes", unfollowed := true, recurses := true, apart := false, narrowed := true }
def ApmMakesUptoSaid : Prop := apmMakesUptoRow.holds Try.pinned (OpenSpec.upto apmMakesSpec)

/-- 'compactorlaw11.ApmRefines', WHERE WHAT IT READS IS OF BULK AT MOST 1048576: true; the input reads as it did. -/
def apmRefinesUptoRow : OpenClaim := { program := "ytojdbhcgppcgkaa", sum := "515146706365b2539c081047b742cd0f745c79b59c4cc84b165681b70ecfcd4b", func := "compactor/compactorlaw11.ApmRefines", spec := "apmRefines", unfollowed := true, recurses := true, apart := false, narrowed := true }
def ApmRefinesUptoSaid : Prop := apmRefinesUptoRow.holds Try.pinned (OpenSpec.upto apmRefinesSpec)

/-- 'compactorlaw11.ApmUpdates', WHERE WHAT IT READS IS OF BULK AT MOST 1048576: true; the input reads as it did. -/
def apmUpdatesUptoRow : OpenClaim := { program := "ytojdbhcgppcgkaa", sum := "515146706365b2539c081047b742cd0f745c79b59c4cc84b165681b70ecfcd4b", func := "compactor/compactorlaw11.ApmUpdates", spec := "apmUpdates", unfollowed := true, recurses := true, apart := false, narrowed := true }
def ApmUpdatesUptoSaid : Prop := apmUpdatesUptoRow.holds Try.pinned (OpenSpec.upto apmUpdatesSpec)

/-- 'compactorlaw11.ApmStarts', WHERE WHAT IT READS IS OF BULK AT MOST 1048576: true; the input reads as it did. -/
def apmStartsUptoRow : OpenClaim := { program := "ytojdbhcgppcgkaa", sum := "515146706365b2539c081047b742cd0f745c79b59c4cc84b165681b70ecfcd4b", func := "compactor/compactorlaw11.ApmStarts", spec := "apmStarts", unfollowed := true, recurses := true, apart := false, narrowed := true }
def ApmStartsUptoSaid : Prop := apmStartsUptoRow.holds Try.pinned (OpenSpec.upto apmStartsSpec)

/-- 'compactorlaw11.ApmRises', WHERE WHAT IT READS IS OF BULK AT MOST 1048576: true; the input reads as it did. -/
def apmRisesUptoRow : OpenClaim := { program := "ytojdbhcgppcgkaa", sum := "515146706365b2539c081047b742cd0f745c79b59c4cc84b165681b70ecfcd4b", func := "compactor/compactorlaw11.ApmRises", spec := "apmRises", unfollowed := true, recurses := true, apart := false, narrowed := true }
def ApmRisesUptoSaid : Prop := apmRisesUptoRow.holds Try.pinned (OpenSpec.upto apmRisesSpec)

/-- 'compactorlaw11.ApmLearns', WHERE WHAT IT READS IS OF BULK AT MOST 1048576: true; the input reads as it did. -/
def apmLearnsUptoRow : OpenClaim := { program := "ytojdbhcgppcgkaa", sum := "515146706365b2539c081047b742cd0f745c79b59c4cc84b165681b70ecfcd4b", func := "compactor/compactorlaw11.ApmLearns", spec := "apmLearns", unfollowed := true, recurses := true, apart := false, narrowed := true }
def ApmLearnsUptoSaid : Prop := apmLearnsUptoRow.holds Try.pinned (OpenSpec.upto apmLearnsSpec)

/-- 'compactorlaw11.ApmKeeps', WHERE WHAT IT READS IS OF BULK AT MOST 1048576: true; the input reads as it did. -/
def apmKeepsUptoRow : OpenClaim := { program := "ytojdbhcgppcgkaa", sum := "515146706365b2539c081047b742cd0f745c79b59c4cc84b165681b70ecfcd4b", func := "compactor/compactorlaw11.ApmKeeps", spec := "apmKeeps", unfollowed := true, recurses := true, apart := false, narrowed := true }
def ApmKeepsUptoSaid : Prop := apmKeepsUptoRow.holds Try.pinned (OpenSpec.upto apmKeepsSpec)

end Rows
end Go.Proofs.Ytojdbhcgppcgkaa
