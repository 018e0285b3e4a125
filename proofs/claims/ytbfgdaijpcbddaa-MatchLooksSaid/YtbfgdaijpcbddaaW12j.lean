/- A model that is being changed (layer 12): its state, and the steps that change a few cells of it. No condition. -/
import Derived.Test.YtbfgdaijpcbddaaW12i
import Derived.Test.YtbfgdaijpcbddaaBase17
set_option linter.unusedSimpArgs false
set_option linter.unusedVariables false
set_option linter.unusedSectionVars false
namespace Go.Proofs.Ytbfgdaijpcbddaa
open Go.RowKit

/-- Values at the beginning of a block. -/
def Own (w : World) (g : Nat) (t : TypeId) (vals : List Value) : Prop := ∃ rest, Blk w g (vals ++ rest) t
theorem Own.lt {w : World} {g : Nat} {t : TypeId} {vals : List Value} (h : Own w g t vals) : g < w.heap.size := by obtain ⟨r, h⟩ := h; exact h.lt
theorem Own.step {w w' : World} {g : Nat} {t : TypeId} {vals : List Value} (h : Own w g t vals) (hb : Below w.heap.size w w') : Own w' g t vals := by obtain ⟨r, h⟩ := h; exact ⟨r, h.step hb⟩
theorem Own.cell {w : World} {g : Nat} {t : TypeId} {vals : List Value} (h : Own w g t vals) {i : Nat} (hi : i < vals.length) : w.cell? ⟨g, i, none⟩ = vals[i]? := by
  obtain ⟨r, h⟩ := h
  rw [h.cell, List.getElem?_append_left hi]
theorem Own.free {w : World} {g : Nat} {t : TypeId} {vals : List Value} (h : Own w g t vals) (i : Nat) : w.frozen? ⟨g, i, none⟩ = false := by obtain ⟨r, h⟩ := h; exact h.free i
theorem Own.rd {w : World} {g : Nat} {t : TypeId} {vals : List Value} (h : Own w g t vals) : Rd w (some ⟨g, 0, none⟩) vals := fun _ => ⟨g, 0, rfl, fun j v hv => by
  rw [Nat.zero_add, h.cell (List.getElem?_eq_some_iff.1 hv).1]; exact hv⟩
theorem Own.set {w : World} {g : Nat} {t : TypeId} {vals : List Value} (h : Own w g t vals) {i : Nat} (hi : i < vals.length) (v : Value) : Own (w.setCell ⟨g, i, none⟩ v) g t (vals.set i v) := by
  obtain ⟨r, h⟩ := h
  refine ⟨r, ?_⟩
  rw [← List.set_append_left _ _ hi]
  exact h.set i v
theorem Own.other {w : World} {g : Nat} {t : TypeId} {vals : List Value} (h : Own w g t vals) (c i : Nat) (v : Value) (hne : ¬ g = c) : Own (w.setCell ⟨c, i, none⟩ v) g t vals := by obtain ⟨r, h⟩ := h; exact ⟨r, h.other c i v hne⟩
theorem Blk.type {w : World} {b : Nat} {cs cs' : List Value} {t t' : TypeId} (h : Blk w b cs t) (h' : Blk w b cs' t') : t = t' := by
  unfold Blk at h h'
  rw [h] at h'
  simp at h'
  exact h'.2
theorem Own.ne {w : World} {g c : Nat} {t t' : TypeId} {vals cs : List Value} (h : Own w g t vals) (hb : Blk w c cs t') (ht : ¬ t = t') : ¬ g = c := fun e => by
  obtain ⟨r, h⟩ := h
  subst e
  exact ht (h.type hb)
theorem own_apart {w : World} {base : Nat} {e t : TypeId} {n cap b : Nat} {a : Option Addr} {xs cs : List Value} (h : w.ownsRow base e 1 (.slice a n cap) n xs) (hb : Blk w b cs t) (hne : ¬ e = t) : (Value.slice a n cap).ownBlock ≠ some b := by
  intro hg
  rcases h.2 with ⟨h', _⟩ | ⟨g2, cap', cur, h', _, hg2, _⟩
  · simp at h'
    obtain ⟨rfl, _, _⟩ := h'
    simp [Value.ownBlock] at hg
  · simp only [Value.slice.injEq] at h'
    obtain ⟨rfl, _, _⟩ := h'
    simp [Value.ownBlock] at hg
    subst hg
    unfold Blk at hb
    rw [hb] at hg2
    simp at hg2
    exact hne hg2.2.symm
theorem grown_setCell (w : World) (b i : Nat) (v : Value) : w.grownBy (w.setCell ⟨b, i, none⟩ v) (some b) :=
  ⟨rfl, rfl, rfl, by simp, fun j _ hne => heap_setCell_other w ⟨b, i, none⟩ j v (fun e => hne (by rw [e]))⟩
theorem own_put {w : World} {base : Nat} {e t : TypeId} {n cap b i : Nat} {a : Option Addr} {xs cs : List Value} {v : Value} (h : w.ownsRow base e 1 (.slice a n cap) n xs) (hb : Blk w b cs t) (hne : ¬ e = t) : (w.setCell ⟨b, i, none⟩ v).ownsRow base e 1 (.slice a n cap) n xs :=
  h.kept (grown_setCell w b i v) (.inr (own_apart h hb hne))

theorem Cts_set : ∀ (l : List (Int × Int)) (k : Nat) (a b : Int), Cts (l.set k (a, b)) = ((Cts l).set (k * 2) (.int .i64 a)).set (k * 2 + 1) (.int .i64 b)
  | [], k, a, b => by simp [Cts]
  | c :: l, 0, a, b => by simp [Cts_cons]
  | c :: l, k + 1, a, b => by
    rw [List.set_cons_succ, Cts_cons, Cts_cons, Cts_set l k a b, show (k + 1) * 2 = k * 2 + 1 + 1 by omega]
    rfl

/-- A model that is being changed. -/
structure St (B S gh gc : Nat) (m : S12.M) (p : Pl) (w : World) : Prop where
  blk : Blk w S (MVals m p) 60
  ph : p.ah = some ⟨gh, 0, none⟩
  pc : p.ac = some ⟨gc, 0, none⟩
  hs : B ≤ S
  hh : B ≤ gh
  hc : B ≤ gc
  oh : Own w gh 3 (Ints m.heads)
  oc : Own w gc 35 (Cts m.ctrs)
  ob : w.ownsRow B 5 1 (.slice p.ab m.bytes.length p.cb) m.bytes.length (Bts m.bytes)
theorem St.step {B S gh gc : Nat} {m : S12.M} {p : Pl} {w w' : World} (h : St B S gh gc m p w) (hb : Below w.heap.size w w') : St B S gh gc m p w' :=
  ⟨h.blk.step hb, h.ph, h.pc, h.hs, h.hh, h.hc, h.oh.step hb, h.oc.step hb, owns_step (B := 0) h.ob hb⟩
/-- A cell of the state itself. -/
theorem St.put {B S gh gc : Nat} {m m' : S12.M} {p : Pl} {w : World} (h : St B S gh gc m p w) (i : Nat) (v : Value) (e : (MVals m p).set i v = MVals m' p) (eh : m'.heads = m.heads) (ec : m'.ctrs = m.ctrs) (eb : m'.bytes = m.bytes) : St B S gh gc m' p (w.setCell ⟨S, i, none⟩ v) :=
  ⟨e ▸ h.blk.set i v, h.ph, h.pc, h.hs, h.hh, h.hc, by rw [eh]; exact h.oh.other S i v (h.oh.ne h.blk (by decide)), by rw [ec]; exact h.oc.other S i v (h.oc.ne h.blk (by decide)), by rw [eb]; exact own_put h.ob h.blk (by decide)⟩
/-- A cell of a counter. -/
theorem St.putC {B S gh gc : Nat} {m : S12.M} {p : Pl} {w : World} (h : St B S gh gc m p w) (k : Nat) (hk : k < m.ctrs.length) (a b : Int) : St B S gh gc { m with ctrs := m.ctrs.set k (a, b) } p ((w.setCell ⟨gc, k * 2, none⟩ (.int .i64 a)).setCell ⟨gc, k * 2 + 1, none⟩ (.int .i64 b)) := by
  have hne1 : ¬ S = gc := fun e => (h.oc.ne h.blk (by decide)) e.symm
  obtain ⟨r, hr⟩ := h.oc
  have hne2 : ¬ gh = gc := h.oh.ne hr (by decide)
  refine ⟨?_, h.ph, h.pc, h.hs, h.hh, h.hc, (h.oh.other gc _ _ hne2).other gc _ _ hne2, ?_, ?_⟩
  · have := (h.blk.other gc (k * 2) (.int .i64 a) hne1).other gc (k * 2 + 1) (.int .i64 b) hne1
    unfold MVals at this ⊢
    simpa using this
  · rw [show ({ m with ctrs := m.ctrs.set k (a, b) } : S12.M).ctrs = m.ctrs.set k (a, b) from rfl, Cts_set]
    exact (h.oc.set (by rw [Cts_length]; omega) _).set (by rw [List.length_set, Cts_length]; omega) _
  · exact own_put (own_put h.ob hr (by decide)) (hr.set _ _) (by decide)
/-- A head. -/
theorem St.putH {B S gh gc : Nat} {m : S12.M} {p : Pl} {w : World} (h : St B S gh gc m p w) (k : Nat) (hk : k < m.heads.length) (a : Int) : St B S gh gc { m with heads := m.heads.set k a } p (w.setCell ⟨gh, k, none⟩ (.int .i64 a)) := by
  have hne1 : ¬ S = gh := fun e => (h.oh.ne h.blk (by decide)) e.symm
  obtain ⟨r, hr⟩ := h.oh
  have hne2 : ¬ gc = gh := h.oc.ne hr (by decide)
  refine ⟨?_, h.ph, h.pc, h.hs, h.hh, h.hc, ?_, h.oc.other gh _ _ hne2, own_put h.ob hr (by decide)⟩
  · have := h.blk.other gh k (.int .i64 a) hne1
    unfold MVals at this ⊢
    simpa using this
  · rw [show Ints ({ m with heads := m.heads.set k a } : S12.M).heads = (Ints m.heads).set k (.int .i64 a) by simp [Ints, List.map_set]]
    exact h.oh.set (by rw [Ints_length]; omega) _
/-- Blocks of functions stay as they are. -/
def KeepF (w w' : World) : Prop := ∀ F cs, Blk w F cs 1 → Blk w' F cs 1
theorem KeepF.refl (w : World) : KeepF w w := fun _ _ h => h
theorem KeepF.trans {a b c : World} (h1 : KeepF a b) (h2 : KeepF b c) : KeepF a c := fun F cs h => h2 F cs (h1 F cs h)
theorem KeepF.of {w w' : World} (hb : Below w.heap.size w w') : KeepF w w' := fun _ _ h => h.step hb
theorem KeepF.set {w : World} {b i : Nat} {cs : List Value} {t : TypeId} {v : Value} (h : Blk w b cs t) (ht : ¬ 1 = t) : KeepF w (w.setCell ⟨b, i, none⟩ v) := fun F ds hF => hF.other b i v (fun e => by subst e; exact ht (hF.type h))
theorem KeepF.setO {w : World} {b i : Nat} {cs : List Value} {t : TypeId} {v : Value} (h : Own w b t cs) (ht : ¬ 1 = t) : KeepF w (w.setCell ⟨b, i, none⟩ v) := by obtain ⟨r, h⟩ := h; exact KeepF.set h ht
end Go.Proofs.Ytbfgdaijpcbddaa
