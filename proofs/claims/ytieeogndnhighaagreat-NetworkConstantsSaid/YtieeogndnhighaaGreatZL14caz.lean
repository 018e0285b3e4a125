/- A part of the proof that ends in L14c (W12e, W12f, W12i). No condition. -/
import Derived.Below
import Derived.Deep.Draws
import Derived.Deep.Light
import Derived.Deep.MidRow
import Derived.Deep.Slices
import Derived.Handy
import Derived.Laws.AppendOwnNone
import Derived.Laws.CopyOwn
import Derived.Laws.MakeOwn
import Derived.Laws.OwnMore
import Derived.Lib.Hide
import Derived.Lib.MinMax
import Derived.LoadGo2
import Derived.LoopIn
import Derived.LoopNIn
import Derived.Maps.AppendAt
import Derived.Orders
import Derived.OrdersHeld
import Derived.OwnWalkIn
import Derived.RangeFuncBound
import Derived.RangeFuncCalls
import Derived.RangeFuncLeaves
import Derived.RangeFuncNested
import Derived.RangeFuncWrites
import Derived.Shelf.Abstract
import Derived.Shelf.RegionOpen
import Derived.Sort.BigQuietIn
import Derived.Sort.QuietIn
import Derived.StillTail
import Derived.Tactics
import Derived.TacticsInMore
import Derived.Test.YtieeogndnhighaaGreatRows
import Derived.Test.YtieeogndnhighaaGreatShelf
import Derived.WalkKit
import Derived.WalkLawsBesides
import Derived.WalkSpells
import Derived.Test.YtieeogndnhighaaGreatZL14cao
import Derived.Test.YtieeogndnhighaaGreatZL14cap
import Derived.Test.YtieeogndnhighaaGreatZL14cav
set_option linter.unusedSimpArgs false
set_option linter.unusedVariables false
set_option linter.unusedSectionVars false
namespace Go.Proofs.YtieeogndnhighaaGreat
open Go.RowKit
def Cts (l : List (Int × Int)) : List Value := l.flatMap fun c => [.int .i64 c.1, .int .i64 c.2]
theorem Cts_cons (c : Int × Int) (l : List (Int × Int)) : Cts (c :: l) = .int .i64 c.1 :: .int .i64 c.2 :: Cts l := rfl
theorem Cts_length (l : List (Int × Int)) : (Cts l).length = l.length * 2 := by
  induction l with
  | nil => rfl
  | cons c l ih => rw [Cts_cons]; simp [ih]; omega
theorem Cts_at : ∀ {l : List (Int × Int)} {i : Nat} (hi : i < l.length), (Cts l)[i * 2]? = some (.int .i64 (l[i]).1) ∧ (Cts l)[i * 2 + 1]? = some (.int .i64 (l[i]).2)
  | c :: l, 0, _ => ⟨rfl, rfl⟩
  | c :: l, i + 1, hi => by
    have := Cts_at (l := l) (i := i) (by simpa using hi)
    rw [Cts_cons, show (i + 1) * 2 = i * 2 + 1 + 1 by omega]
    simpa using this
end Go.Proofs.YtieeogndnhighaaGreat
namespace Go.Proofs.YtieeogndnhighaaGreat
open Go.RowKit
end Go.Proofs.YtieeogndnhighaaGreat
set_option linter.unusedSimpArgs false
set_option linter.unusedVariables false
set_option linter.unusedSectionVars false
namespace Go.Proofs.YtieeogndnhighaaGreat
open Go.RowKit
/-- Where the lists of a model lie. -/
structure Pl where
  ah : Option Addr
  ch : Nat
  ab : Option Addr
  cb : Nat
  ac : Option Addr
  cc : Nat
def MVals (m : S12.M) (p : Pl) : List Value := [.int .i64 m.bits, .int .i64 m.least, .slice p.ah m.heads.length p.ch, .slice p.ab m.bytes.length p.cb, .int .i64 m.at_, .int .i64 m.len, .int .i64 m.part, .int .i64 m.bit, .slice p.ac m.ctrs.length p.cc]
def MV (m : S12.M) (p : Pl) : Value := .agg (MVals m p).toArray
structure MIs (m : S12.M) (p : Pl) (w : World) : Prop where
  rdh : Rd w p.ah (Ints m.heads)
  rdb : Rd w p.ab (Bts m.bytes)
  rdc : Rd w p.ac (Cts m.ctrs)
  byt : S12.Byt m.bytes
  cb : m.bytes.length ≤ p.cb
  lh : m.heads.length ≤ 4611686018427387904
  lb : m.bytes.length ≤ 4611686018427387904
  lc : m.ctrs.length ≤ 4611686018427387904
theorem MIs.step {m : S12.M} {p : Pl} {w w' : World} (h : MIs m p w) (hb : Below w.heap.size w w') : MIs m p w' := ⟨h.rdh.step hb, h.rdb.step hb, h.rdc.step hb, h.byt, h.cb, h.lh, h.lb, h.lc⟩
end Go.Proofs.YtieeogndnhighaaGreat
set_option linter.unusedSimpArgs false
set_option linter.unusedVariables false
set_option linter.unusedSectionVars false
namespace Go.Proofs.YtieeogndnhighaaGreat
open Go.RowKit
/-- The lists of a model lie at B or beyond. -/
def Far (B : Nat) (p : Pl) : Prop := (∀ g o, p.ah = some ⟨g, o, none⟩ → B ≤ g) ∧ (∀ g o, p.ab = some ⟨g, o, none⟩ → B ≤ g) ∧ (∀ g o, p.ac = some ⟨g, o, none⟩ → B ≤ g)
theorem Far.mono {B B' : Nat} {p : Pl} (h : Far B p) (hb : B' ≤ B) : Far B' p := ⟨fun g o e => Nat.le_trans hb (h.1 g o e), fun g o e => Nat.le_trans hb (h.2.1 g o e), fun g o e => Nat.le_trans hb (h.2.2 g o e)⟩
/-- The model of an error. -/
def S12.zero : S12.M := ⟨0, 0, [], [], 0, 0, 0, 0, []⟩
theorem MIs.zero (w : World) : MIs S12.zero ⟨none, 0, none, 0, none, 0⟩ w :=
  ⟨Rd.nil _ _, Rd.nil _ _, Rd.nil _ _, fun _ hx => absurd hx List.not_mem_nil, Nat.le_refl _, Nat.zero_le _, Nat.zero_le _, Nat.zero_le _⟩
end Go.Proofs.YtieeogndnhighaaGreat
