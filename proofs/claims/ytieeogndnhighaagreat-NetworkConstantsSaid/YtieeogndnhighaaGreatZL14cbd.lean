/- A part of the proof that ends in L14c (W12l, W12p). No condition. -/
import Derived.Below
import Derived.BigQuiet
import Derived.Deep.Draws
import Derived.Deep.Light
import Derived.Deep.MidRow
import Derived.Deep.QuietTactic
import Derived.Deep.Slices
import Derived.Handy
import Derived.Laws.AppendOwnNone
import Derived.Laws.CopyOwn
import Derived.Laws.MakeOwn
import Derived.Laws.OwnMore
import Derived.Lib.Hide
import Derived.Lib.MinMax
import Derived.LoadGo2
import Derived.LoopIn
import Derived.LoopNIn
import Derived.Maps.AppendAt
import Derived.Orders
import Derived.OrdersHeld
import Derived.OwnWalkIn
import Derived.RangeFuncBound
import Derived.RangeFuncCalls
import Derived.RangeFuncLeaves
import Derived.RangeFuncNested
import Derived.RangeFuncWrites
import Derived.Shelf.Abstract
import Derived.Shelf.RegionOpen
import Derived.Sort.BigQuietIn
import Derived.Sort.QuietIn
import Derived.StillTail
import Derived.Tactics
import Derived.TacticsInMore
import Derived.Test.YtieeogndnhighaaGreatRows
import Derived.Test.YtieeogndnhighaaGreatShelf
import Derived.WalkKit
import Derived.WalkLawsBesides
import Derived.WalkSpells
import Derived.Test.YtieeogndnhighaaGreatZL14cat
import Derived.Test.YtieeogndnhighaaGreatZL14caz
set_option linter.unusedSimpArgs false
set_option linter.unusedVariables false
set_option linter.unusedSectionVars false
namespace Go.Proofs.YtieeogndnhighaaGreat
open Go.RowKit
/-- Values at the beginning of a block. -/
def Own (w : World) (g : Nat) (t : TypeId) (vals : List Value) : Prop := ∃ rest, Blk w g (vals ++ rest) t
theorem Own.lt {w : World} {g : Nat} {t : TypeId} {vals : List Value} (h : Own w g t vals) : g < w.heap.size := by obtain ⟨r, h⟩ := h; exact h.lt
theorem Own.step {w w' : World} {g : Nat} {t : TypeId} {vals : List Value} (h : Own w g t vals) (hb : Below w.heap.size w w') : Own w' g t vals := by obtain ⟨r, h⟩ := h; exact ⟨r, h.step hb⟩
theorem Own.cell {w : World} {g : Nat} {t : TypeId} {vals : List Value} (h : Own w g t vals) {i : Nat} (hi : i < vals.length) : w.cell? ⟨g, i, none⟩ = vals[i]? := by
  obtain ⟨r, h⟩ := h
  rw [h.cell, List.getElem?_append_left hi]
theorem Own.free {w : World} {g : Nat} {t : TypeId} {vals : List Value} (h : Own w g t vals) (i : Nat) : w.frozen? ⟨g, i, none⟩ = false := by obtain ⟨r, h⟩ := h; exact h.free i
theorem Own.rd {w : World} {g : Nat} {t : TypeId} {vals : List Value} (h : Own w g t vals) : Rd w (some ⟨g, 0, none⟩) vals := fun _ => ⟨g, 0, rfl, fun j v hv => by
  rw [Nat.zero_add, h.cell (List.getElem?_eq_some_iff.1 hv).1]; exact hv⟩
theorem Own.set {w : World} {g : Nat} {t : TypeId} {vals : List Value} (h : Own w g t vals) {i : Nat} (hi : i < vals.length) (v : Value) : Own (w.setCell ⟨g, i, none⟩ v) g t (vals.set i v) := by
  obtain ⟨r, h⟩ := h
  refine ⟨r, ?_⟩
  rw [← List.set_append_left _ _ hi]
  exact h.set i v
theorem Own.other {w : World} {g : Nat} {t : TypeId} {vals : List Value} (h : Own w g t vals) (c i : Nat) (v : Value) (hne : ¬ g = c) : Own (w.setCell ⟨c, i, none⟩ v) g t vals := by obtain ⟨r, h⟩ := h; exact ⟨r, h.other c i v hne⟩
theorem Blk.type {w : World} {b : Nat} {cs cs' : List Value} {t t' : TypeId} (h : Blk w b cs t) (h' : Blk w b cs' t') : t = t' := by
  unfold Blk at h h'
  rw [h] at h'
  simp at h'
  exact h'.2
theorem Own.ne {w : World} {g c : Nat} {t t' : TypeId} {vals cs : List Value} (h : Own w g t vals) (hb : Blk w c cs t') (ht : ¬ t = t') : ¬ g = c := fun e => by
  obtain ⟨r, h⟩ := h
  subst e
  exact ht (h.type hb)
theorem own_put {w : World} {base : Nat} {e t : TypeId} {n cap b i : Nat} {a : Option Addr} {xs cs : List Value} {v : Value} (h : w.ownsRow base e 1 (.slice a n cap) n xs) (hb : Blk w b cs t) (hne : ¬ e = t) : (w.setCell ⟨b, i, none⟩ v).ownsRow base e 1 (.slice a n cap) n xs :=
  h.kept (grown_setCell w b i v) (.inr (own_apart h hb hne))
/-- A model that is being changed. -/
structure St (B S gh gc : Nat) (m : S12.M) (p : Pl) (w : World) : Prop where
  blk : Blk w S (MVals m p) 268
  ph : p.ah = some ⟨gh, 0, none⟩
  pc : p.ac = some ⟨gc, 0, none⟩
  hs : B ≤ S
  hh : B ≤ gh
  hc : B ≤ gc
  oh : Own w gh 3 (Ints m.heads)
  oc : Own w gc 170 (Cts m.ctrs)
  ob : w.ownsRow B 5 1 (.slice p.ab m.bytes.length p.cb) m.bytes.length (Bts m.bytes)
theorem St.step {B S gh gc : Nat} {m : S12.M} {p : Pl} {w w' : World} (h : St B S gh gc m p w) (hb : Below w.heap.size w w') : St B S gh gc m p w' :=
  ⟨h.blk.step hb, h.ph, h.pc, h.hs, h.hh, h.hc, h.oh.step hb, h.oc.step hb, owns_step (B := 0) h.ob hb⟩
/-- A cell of the state itself. -/
theorem St.put {B S gh gc : Nat} {m m' : S12.M} {p : Pl} {w : World} (h : St B S gh gc m p w) (i : Nat) (v : Value) (e : (MVals m p).set i v = MVals m' p) (eh : m'.heads = m.heads) (ec : m'.ctrs = m.ctrs) (eb : m'.bytes = m.bytes) : St B S gh gc m' p (w.setCell ⟨S, i, none⟩ v) :=
  ⟨e ▸ h.blk.set i v, h.ph, h.pc, h.hs, h.hh, h.hc, by rw [eh]; exact h.oh.other S i v (h.oh.ne h.blk (by decide)), by rw [ec]; exact h.oc.other S i v (h.oc.ne h.blk (by decide)), by rw [eb]; exact own_put h.ob h.blk (by decide)⟩
/-- Blocks of functions stay as they are. -/
def KeepF (w w' : World) : Prop := ∀ F cs, Blk w F cs 1 → Blk w' F cs 1
theorem KeepF.refl (w : World) : KeepF w w := fun _ _ h => h
theorem KeepF.trans {a b c : World} (h1 : KeepF a b) (h2 : KeepF b c) : KeepF a c := fun F cs h => h2 F cs (h1 F cs h)
theorem KeepF.set {w : World} {b i : Nat} {cs : List Value} {t : TypeId} {v : Value} (h : Blk w b cs t) (ht : ¬ 1 = t) : KeepF w (w.setCell ⟨b, i, none⟩ v) := fun F ds hF => hF.other b i v (fun e => by subst e; exact ht (hF.type h))
end Go.Proofs.YtieeogndnhighaaGreat
namespace Go.Proofs.YtieeogndnhighaaGreat
open Go.RowKit
end Go.Proofs.YtieeogndnhighaaGreat
namespace Go.Proofs.YtieeogndnhighaaGreat
open Go.RowKit
end Go.Proofs.YtieeogndnhighaaGreat
set_option linter.unusedSimpArgs false
set_option linter.unusedVariables false
set_option linter.unusedSectionVars false
namespace Go.Proofs.YtieeogndnhighaaGreat
open Go.RowKit
end Go.Proofs.YtieeogndnhighaaGreat
namespace Go.Proofs.YtieeogndnhighaaGreat
open Go.RowKit
theorem St.mono {B B' S gh gc : Nat} {m : S12.M} {p : Pl} {w : World} (h : St B S gh gc m p w) (hb : B' ≤ B) (hy : w.ownsRow B' 5 1 (.slice p.ab m.bytes.length p.cb) m.bytes.length (Bts m.bytes)) : St B' S gh gc m p w :=
  ⟨h.blk, h.ph, h.pc, Nat.le_trans hb h.hs, Nat.le_trans hb h.hh, Nat.le_trans hb h.hc, h.oh, h.oc, hy⟩
theorem St.apart {B S gh gc : Nat} {m : S12.M} {p : Pl} {w : World} (h : St B S gh gc m p w) {r : Nat} (hr : r < B) :
    (∀ g o, p.ah = some ⟨g, o, none⟩ → Ints m.heads ≠ [] → ¬ g = r) ∧ (∀ g o, p.ab = some ⟨g, o, none⟩ → Bts m.bytes ≠ [] → ¬ g = r) ∧ (∀ g o, p.ac = some ⟨g, o, none⟩ → Cts m.ctrs ≠ [] → ¬ g = r) := by
  refine ⟨fun g o e _ => ?_, fun g o e _ => ?_, fun g o e _ => ?_⟩
  · rw [h.ph] at e; cases e; have := h.hh; omega
  · have := h.ob.lt g (by rw [e]; rfl); omega
  · rw [h.pc] at e; cases e; have := h.hc; omega
end Go.Proofs.YtieeogndnhighaaGreat
