/- A part of the proof that ends in L14c (W10f, W10i, W10k, W10n). No condition. -/
import Derived.Below
import Derived.BigQuiet
import Derived.Deep.Draws
import Derived.Deep.Light
import Derived.Deep.MidRow
import Derived.Deep.QuietTactic
import Derived.Handy
import Derived.Laws.AppendOwnNone
import Derived.Laws.CopyOwn
import Derived.Laws.MakeOwn
import Derived.Laws.OwnMore
import Derived.Lib.Hide
import Derived.Lib.MinMax
import Derived.LoopIn
import Derived.LoopNIn
import Derived.Maps.AppendAt
import Derived.Orders
import Derived.OrdersHeld
import Derived.OwnWalkIn
import Derived.RangeFuncBound
import Derived.RangeFuncCalls
import Derived.RangeFuncLeaves
import Derived.RangeFuncNested
import Derived.Shelf.Abstract
import Derived.Shelf.RegionOpen
import Derived.Sort.BigQuietIn
import Derived.Sort.QuietIn
import Derived.StillTail
import Derived.Tactics
import Derived.TacticsInMore
import Derived.Test.YtieeogndnhighaaGreatRows
import Derived.WalkKit
import Derived.WalkLawsBesides
import Derived.WalkSpells
import Derived.Test.YtieeogndnhighaaGreatZL14cac
import Derived.Test.YtieeogndnhighaaGreatZL14cag
import Derived.Test.YtieeogndnhighaaGreatZL14cas
set_option linter.unusedSimpArgs false
set_option linter.unusedVariables false
set_option linter.unusedSectionVars false
namespace Go.Proofs.YtieeogndnhighaaGreat
open Go.RowKit Go.Shelf
attribute [local go_sem] Oper.semAt_some
end Go.Proofs.YtieeogndnhighaaGreat
namespace Go.Proofs.YtieeogndnhighaaGreat
open Go.RowKit
end Go.Proofs.YtieeogndnhighaaGreat
namespace Go.Proofs.YtieeogndnhighaaGreat
open Go.RowKit Go.Shelf
attribute [local go_sem] Oper.semAt_some
theorem Blk.kept {A B : World} {row : Option Nat} {b : Nat} {cs : List Value} {t : TypeId} (h : Blk A b cs t) (hg : A.grownBy B row) (hr : ∀ r, row = some r → ∃ o : Obj, A.heap[r]? = some o ∧ o.isCells = false) : Blk B b cs t := by
  have hl := h.lt
  unfold Blk at *
  rw [hg.block b hl (fun e => by
    obtain ⟨o, ho, hc⟩ := hr b e.symm
    rw [h] at ho
    cases ho
    cases hc)]
  exact h
end Go.Proofs.YtieeogndnhighaaGreat
set_option linter.unusedSimpArgs false
set_option linter.unusedVariables false
set_option linter.unusedSectionVars false
namespace Go.Proofs.YtieeogndnhighaaGreat
open Go.RowKit
/-- A table lies in the world. -/
structure Tab (xs : List Int) (a : Option Addr) (cap : Nat) (w : World) : Prop where
  ok : ∀ x ∈ xs, 0 ≤ x ∧ x < 256
  cap : xs.length ≤ cap
  rd : Rd w a (Bts xs)
theorem Tab.step {xs : List Int} {a : Option Addr} {cap : Nat} {w w' : World} (h : Tab xs a cap w) (hb : Below w.heap.size w w') : Tab xs a cap w' := ⟨h.ok, h.cap, h.rd.step hb⟩
/-- Its value. -/
def tabV (bits : Int) (xs : List Int) (a : Option Addr) (cap : Nat) : Value := .agg #[.int .i64 bits, .slice a xs.length cap]
end Go.Proofs.YtieeogndnhighaaGreat
namespace Go.Proofs.YtieeogndnhighaaGreat
open Go.RowKit
/-- Whether there is a node of a slot. -/
def S10.exists (bits n k : Int) : Bool := decide (0 ≤ n ∧ n < 2 ^ bits.toNat) && decide (1 ≤ k ∧ k ≤ 15)
def S10.node (bits : Int) (xs : List Int) (n k : Int) : Int := if S10.check bits xs = 0 then (if S10.exists bits n k then 0 else 2) else S10.check bits xs
end Go.Proofs.YtieeogndnhighaaGreat
namespace Go.Proofs.YtieeogndnhighaaGreat
open Go.RowKit
def S10.getN (bits : Int) (xs : List Int) (n k : Int) : Int := if S10.node bits xs n k = 0 then xs.getD (16 * n.toNat + k.toNat) 0 else 0
end Go.Proofs.YtieeogndnhighaaGreat
set_option linter.unusedSimpArgs false
set_option linter.unusedVariables false
set_option linter.unusedSectionVars false
namespace Go.Proofs.YtieeogndnhighaaGreat
open Go.RowKit
/-- Bytes of the call's own: they begin their block. -/
def OB (w : World) (base b cap : Nat) (xs : List Int) : Prop := base ≤ b ∧ xs.length ≤ cap ∧ cap ≤ 9223372036854775807 ∧ ∃ cs, Blk w b cs 5 ∧ cs.take xs.length = Bts xs
theorem OB.lt {w : World} {base b cap : Nat} {xs : List Int} (h : OB w base b cap xs) : b < w.heap.size := by obtain ⟨_, _, _, cs, hb, _⟩ := h; exact hb.lt
theorem OB.step {w w' : World} {base b cap : Nat} {xs : List Int} (h : OB w base b cap xs) (hb : Below w.heap.size w w') : OB w' base b cap xs := by
  obtain ⟨h1, h2, h3, cs, h4, h5⟩ := h
  exact ⟨h1, h2, h3, cs, h4.step hb, h5⟩
theorem OB.at {w : World} {base b cap : Nat} {xs : List Int} (h : OB w base b cap xs) {i : Nat} (hi : i < xs.length) : w.cell? ⟨b, i, none⟩ = some (.int .u8 (xs.getD i 0)) := by
  obtain ⟨h1, h2, h3, cs, h4, h5⟩ := h
  rw [h4.cell i]
  have h6 : (cs.take xs.length)[i]? = (Bts xs)[i]? := by rw [h5]
  rw [List.getElem?_take, if_pos hi] at h6
  rw [h6]
  unfold Bts
  rw [List.getElem?_map, List.getElem?_eq_getElem hi, List.getD_eq_getElem?_getD, List.getElem?_eq_getElem hi]
  rfl
theorem OB.free {w : World} {base b cap : Nat} {xs : List Int} (h : OB w base b cap xs) (i : Nat) : w.frozen? ⟨b, i, none⟩ = false := by obtain ⟨_, _, _, cs, hb, _⟩ := h; exact hb.free i
theorem OB.range {w : World} {base b cap : Nat} {xs : List Int} (h : OB w base b cap xs) : w.rangeAt b 0 (Bts xs) := fun j v hv => by
  rw [Nat.zero_add]
  have hj : j < xs.length := by rw [← Bts_length]; exact (List.getElem?_eq_some_iff.1 hv).1
  rw [h.at hj, ← hv]
  unfold Bts
  rw [List.getElem?_map, List.getElem?_eq_getElem hj, List.getD_eq_getElem?_getD, List.getElem?_eq_getElem hj]
  rfl
theorem OB.rd {w : World} {base b cap : Nat} {xs : List Int} (h : OB w base b cap xs) : Rd w (some ⟨b, 0, none⟩) (Bts xs) := fun _ => ⟨b, 0, rfl, h.range⟩
theorem OB.set {w : World} {base b cap : Nat} {xs : List Int} (h : OB w base b cap xs) (i : Nat) (v : Int) : OB (w.setCell ⟨b, i, none⟩ (.int .u8 v)) base b cap (xs.set i v) := by
  obtain ⟨h1, h2, h3, cs, h4, h5⟩ := h
  refine ⟨h1, by rw [List.length_set]; exact h2, h3, _, h4.set i _, ?_⟩
  rw [List.length_set, List.take_set, h5]
  unfold Bts
  rw [List.map_set]
end Go.Proofs.YtieeogndnhighaaGreat
namespace Go.Proofs.YtieeogndnhighaaGreat
open Go.RowKit
theorem OB.other {w : World} {base b cap : Nat} {xs : List Int} (h : OB w base b cap xs) (c i : Nat) (v : Value) (hne : ¬ b = c) : OB (w.setCell ⟨c, i, none⟩ v) base b cap xs := by
  obtain ⟨h1, h2, h3, cs, h4, h5⟩ := h
  exact ⟨h1, h2, h3, cs, h4.other c i v hne, h5⟩
theorem OB.mono {w : World} {base base' b cap : Nat} {xs : List Int} (h : OB w base b cap xs) (hb : base' ≤ base) : OB w base' b cap xs := ⟨Nat.le_trans hb h.1, h.2⟩
end Go.Proofs.YtieeogndnhighaaGreat
set_option linter.unusedSimpArgs false
set_option linter.unusedVariables false
set_option linter.unusedSectionVars false
namespace Go.Proofs.YtieeogndnhighaaGreat
open Go.RowKit
/-- A table that was handed back: none, or one whose bytes are the call's own. -/
def TO (w : World) (base : Nat) (bits : Int) (xs : List Int) (V : Value) : Prop :=
  (bits = 0 ∧ xs = [] ∧ V = .agg #[.int .i64 0, .slice none 0 0]) ∨ ∃ b cap, V = tabV bits xs (some ⟨b, 0, none⟩) cap ∧ OB w base b cap xs
theorem TO.nil (w : World) (base : Nat) : TO w base 0 [] (.agg #[.int .i64 0, .slice none 0 0]) := .inl ⟨rfl, rfl, rfl⟩
theorem TO.step {w w' : World} {base : Nat} {bits : Int} {xs : List Int} {V : Value} (h : TO w base bits xs V) (hb : Below w.heap.size w w') : TO w' base bits xs V := by
  rcases h with h | ⟨b, cap, h1, h2⟩
  · exact .inl h
  · exact .inr ⟨b, cap, h1, h2.step hb⟩
end Go.Proofs.YtieeogndnhighaaGreat
namespace Go.Proofs.YtieeogndnhighaaGreat
open Go.RowKit
end Go.Proofs.YtieeogndnhighaaGreat
namespace Go.Proofs.YtieeogndnhighaaGreat
open Go.RowKit
end Go.Proofs.YtieeogndnhighaaGreat
