/- A model that is being changed (layer 12): its state, and the steps that change a few cells of it. learn and extend (layer 12). learn (layer 12). No condition. -/
import Derived.Test.YtbfgdaijpcbddaaW12i
import Derived.Test.YtbfgdaijpcbddaaBase17
set_option linter.unusedSimpArgs false
set_option linter.unusedVariables false
set_option linter.unusedSectionVars false
namespace Go.Proofs.Ytbfgdaijpcbddaa
open Go.RowKit

/-- Values at the beginning of a block. -/
def Own (w : World) (g : Nat) (t : TypeId) (vals : List Value) : Prop := ∃ rest, Blk w g (vals ++ rest) t
theorem Own.lt {w : World} {g : Nat} {t : TypeId} {vals : List Value} (h : Own w g t vals) : g < w.heap.size := by obtain ⟨r, h⟩ := h; exact h.lt
theorem Own.step {w w' : World} {g : Nat} {t : TypeId} {vals : List Value} (h : Own w g t vals) (hb : Below w.heap.size w w') : Own w' g t vals := by obtain ⟨r, h⟩ := h; exact ⟨r, h.step hb⟩
theorem Own.cell {w : World} {g : Nat} {t : TypeId} {vals : List Value} (h : Own w g t vals) {i : Nat} (hi : i < vals.length) : w.cell? ⟨g, i, none⟩ = vals[i]? := by
  obtain ⟨r, h⟩ := h
  rw [h.cell, List.getElem?_append_left hi]
theorem Own.free {w : World} {g : Nat} {t : TypeId} {vals : List Value} (h : Own w g t vals) (i : Nat) : w.frozen? ⟨g, i, none⟩ = false := by obtain ⟨r, h⟩ := h; exact h.free i
theorem Own.rd {w : World} {g : Nat} {t : TypeId} {vals : List Value} (h : Own w g t vals) : Rd w (some ⟨g, 0, none⟩) vals := fun _ => ⟨g, 0, rfl, fun j v hv => by
  rw [Nat.zero_add, h.cell (List.getElem?_eq_some_iff.1 hv).1]; exact hv⟩
theorem Own.set {w : World} {g : Nat} {t : TypeId} {vals : List Value} (h : Own w g t vals) {i : Nat} (hi : i < vals.length) (v : Value) : Own (w.setCell ⟨g, i, none⟩ v) g t (vals.set i v) := by
  obtain ⟨r, h⟩ := h
  refine ⟨r, ?_⟩
  rw [← List.set_append_left _ _ hi]
  exact h.set i v
theorem Own.other {w : World} {g : Nat} {t : TypeId} {vals : List Value} (h : Own w g t vals) (c i : Nat) (v : Value) (hne : ¬ g = c) : Own (w.setCell ⟨c, i, none⟩ v) g t vals := by obtain ⟨r, h⟩ := h; exact ⟨r, h.other c i v hne⟩
theorem Blk.type {w : World} {b : Nat} {cs cs' : List Value} {t t' : TypeId} (h : Blk w b cs t) (h' : Blk w b cs' t') : t = t' := by
  unfold Blk at h h'
  rw [h] at h'
  simp at h'
  exact h'.2
theorem Own.ne {w : World} {g c : Nat} {t t' : TypeId} {vals cs : List Value} (h : Own w g t vals) (hb : Blk w c cs t') (ht : ¬ t = t') : ¬ g = c := fun e => by
  obtain ⟨r, h⟩ := h
  subst e
  exact ht (h.type hb)
theorem own_apart {w : World} {base : Nat} {e t : TypeId} {n cap b : Nat} {a : Option Addr} {xs cs : List Value} (h : w.ownsRow base e 1 (.slice a n cap) n xs) (hb : Blk w b cs t) (hne : ¬ e = t) : (Value.slice a n cap).ownBlock ≠ some b := by
  intro hg
  rcases h.2 with ⟨h', _⟩ | ⟨g2, cap', cur, h', _, hg2, _⟩
  · simp at h'
    obtain ⟨rfl, _, _⟩ := h'
    simp [Value.ownBlock] at hg
  · simp only [Value.slice.injEq] at h'
    obtain ⟨rfl, _, _⟩ := h'
    simp [Value.ownBlock] at hg
    subst hg
    unfold Blk at hb
    rw [hb] at hg2
    simp at hg2
    exact hne hg2.2.symm
theorem grown_setCell (w : World) (b i : Nat) (v : Value) : w.grownBy (w.setCell ⟨b, i, none⟩ v) (some b) :=
  ⟨rfl, rfl, rfl, by simp, fun j _ hne => heap_setCell_other w ⟨b, i, none⟩ j v (fun e => hne (by rw [e]))⟩
theorem own_put {w : World} {base : Nat} {e t : TypeId} {n cap b i : Nat} {a : Option Addr} {xs cs : List Value} {v : Value} (h : w.ownsRow base e 1 (.slice a n cap) n xs) (hb : Blk w b cs t) (hne : ¬ e = t) : (w.setCell ⟨b, i, none⟩ v).ownsRow base e 1 (.slice a n cap) n xs :=
  h.kept (grown_setCell w b i v) (.inr (own_apart h hb hne))

theorem Cts_set : ∀ (l : List (Int × Int)) (k : Nat) (a b : Int), Cts (l.set k (a, b)) = ((Cts l).set (k * 2) (.int .i64 a)).set (k * 2 + 1) (.int .i64 b)
  | [], k, a, b => by simp [Cts]
  | c :: l, 0, a, b => by simp [Cts_cons]
  | c :: l, k + 1, a, b => by
    rw [List.set_cons_succ, Cts_cons, Cts_cons, Cts_set l k a b, show (k + 1) * 2 = k * 2 + 1 + 1 by omega]
    rfl

/-- A model that is being changed. -/
structure St (B S gh gc : Nat) (m : S12.M) (p : Pl) (w : World) : Prop where
  blk : Blk w S (MVals m p) 60
  ph : p.ah = some ⟨gh, 0, none⟩
  pc : p.ac = some ⟨gc, 0, none⟩
  hs : B ≤ S
  hh : B ≤ gh
  hc : B ≤ gc
  oh : Own w gh 3 (Ints m.heads)
  oc : Own w gc 35 (Cts m.ctrs)
  ob : w.ownsRow B 5 1 (.slice p.ab m.bytes.length p.cb) m.bytes.length (Bts m.bytes)
theorem St.step {B S gh gc : Nat} {m : S12.M} {p : Pl} {w w' : World} (h : St B S gh gc m p w) (hb : Below w.heap.size w w') : St B S gh gc m p w' :=
  ⟨h.blk.step hb, h.ph, h.pc, h.hs, h.hh, h.hc, h.oh.step hb, h.oc.step hb, owns_step (B := 0) h.ob hb⟩
/-- A cell of the state itself. -/
theorem St.put {B S gh gc : Nat} {m m' : S12.M} {p : Pl} {w : World} (h : St B S gh gc m p w) (i : Nat) (v : Value) (e : (MVals m p).set i v = MVals m' p) (eh : m'.heads = m.heads) (ec : m'.ctrs = m.ctrs) (eb : m'.bytes = m.bytes) : St B S gh gc m' p (w.setCell ⟨S, i, none⟩ v) :=
  ⟨e ▸ h.blk.set i v, h.ph, h.pc, h.hs, h.hh, h.hc, by rw [eh]; exact h.oh.other S i v (h.oh.ne h.blk (by decide)), by rw [ec]; exact h.oc.other S i v (h.oc.ne h.blk (by decide)), by rw [eb]; exact own_put h.ob h.blk (by decide)⟩
/-- A cell of a counter. -/
theorem St.putC {B S gh gc : Nat} {m : S12.M} {p : Pl} {w : World} (h : St B S gh gc m p w) (k : Nat) (hk : k < m.ctrs.length) (a b : Int) : St B S gh gc { m with ctrs := m.ctrs.set k (a, b) } p ((w.setCell ⟨gc, k * 2, none⟩ (.int .i64 a)).setCell ⟨gc, k * 2 + 1, none⟩ (.int .i64 b)) := by
  have hne1 : ¬ S = gc := fun e => (h.oc.ne h.blk (by decide)) e.symm
  obtain ⟨r, hr⟩ := h.oc
  have hne2 : ¬ gh = gc := h.oh.ne hr (by decide)
  refine ⟨?_, h.ph, h.pc, h.hs, h.hh, h.hc, (h.oh.other gc _ _ hne2).other gc _ _ hne2, ?_, ?_⟩
  · have := (h.blk.other gc (k * 2) (.int .i64 a) hne1).other gc (k * 2 + 1) (.int .i64 b) hne1
    unfold MVals at this ⊢
    simpa using this
  · rw [show ({ m with ctrs := m.ctrs.set k (a, b) } : S12.M).ctrs = m.ctrs.set k (a, b) from rfl, Cts_set]
    exact (h.oc.set (by rw [Cts_length]; omega) _).set (by rw [List.length_set, Cts_length]; omega) _
  · exact own_put (own_put h.ob hr (by decide)) (hr.set _ _) (by decide)
/-- A head. -/
theorem St.putH {B S gh gc : Nat} {m : S12.M} {p : Pl} {w : World} (h : St B S gh gc m p w) (k : Nat) (hk : k < m.heads.length) (a : Int) : St B S gh gc { m with heads := m.heads.set k a } p (w.setCell ⟨gh, k, none⟩ (.int .i64 a)) := by
  have hne1 : ¬ S = gh := fun e => (h.oh.ne h.blk (by decide)) e.symm
  obtain ⟨r, hr⟩ := h.oh
  have hne2 : ¬ gc = gh := h.oc.ne hr (by decide)
  refine ⟨?_, h.ph, h.pc, h.hs, h.hh, h.hc, ?_, h.oc.other gh _ _ hne2, own_put h.ob hr (by decide)⟩
  · have := h.blk.other gh k (.int .i64 a) hne1
    unfold MVals at this ⊢
    simpa using this
  · rw [show Ints ({ m with heads := m.heads.set k a } : S12.M).heads = (Ints m.heads).set k (.int .i64 a) by simp [Ints, List.map_set]]
    exact h.oh.set (by rw [Ints_length]; omega) _
/-- Blocks of functions stay as they are. -/
def KeepF (w w' : World) : Prop := ∀ F cs, Blk w F cs 1 → Blk w' F cs 1
theorem KeepF.refl (w : World) : KeepF w w := fun _ _ h => h
theorem KeepF.trans {a b c : World} (h1 : KeepF a b) (h2 : KeepF b c) : KeepF a c := fun F cs h => h2 F cs (h1 F cs h)
theorem KeepF.of {w w' : World} (hb : Below w.heap.size w w') : KeepF w w' := fun _ _ h => h.step hb
theorem KeepF.set {w : World} {b i : Nat} {cs : List Value} {t : TypeId} {v : Value} (h : Blk w b cs t) (ht : ¬ 1 = t) : KeepF w (w.setCell ⟨b, i, none⟩ v) := fun F ds hF => hF.other b i v (fun e => by subst e; exact ht (hF.type h))
theorem KeepF.setO {w : World} {b i : Nat} {cs : List Value} {t : TypeId} {v : Value} (h : Own w b t cs) (ht : ¬ 1 = t) : KeepF w (w.setCell ⟨b, i, none⟩ v) := by obtain ⟨r, h⟩ := h; exact KeepF.set h ht
end Go.Proofs.Ytbfgdaijpcbddaa

namespace Go.Proofs.Ytbfgdaijpcbddaa
open Go.RowKit

theorem below_drew (B : Nat) (w : World) : Below B w w.drew := (Below.refl B w).drew

set_option maxHeartbeats 1000000 in
theorem end12_any (S : Nat) (c0 c1 c2 c3 c4 c5 c6 c7 c8 : Value) (w : World) (hB : Blk w S [c0, c1, c2, c3, c4, c5, c6, c7, c8] 60) :
    Calls Try.prog 58 #[.pointer (some ⟨S, 0, none⟩)] w fun e w' => e = .returned (.tuple #[]) ∧ w' = (w.setCell ⟨S, 4, none⟩ (.int .i64 0)).setCell ⟨S, 5, none⟩ (.int .i64 0) := by
  obtain ⟨x0, x1, x2, x3, x4, x5, x6, x7, x8⟩ := hB.nine
  have f4 := hB.free 4
  have f5 := hB.free 5
  go_enter Try.func58, Try.ntmps58
  go_wp2_with fail
  go_returns
  exact ⟨rfl, rfl⟩

set_option maxRecDepth 100000 in
set_option maxHeartbeats 2000000 in
theorem extend12_any (B S gh gc : Nat) (m : S12.M) (p : Pl) (w : World) (h : St B S gh gc m p w) (hl : 0 ≤ m.len ∧ m.len ≤ 255) (ha : 0 ≤ m.at_ ∧ m.at_ ≤ 1000000) :
    Calls Try.prog 36 #[.pointer (some ⟨S, 0, none⟩)] w fun e w' => e = .returned (.tuple #[]) ∧ St B S gh gc (S12.extend m) p w' ∧ Below B w w' ∧ KeepF w w' := by
  have hS := h.hs
  obtain ⟨x0, x1, x2, x3, x4, x5, x6, x7, x8⟩ := h.blk.nine
  have f4 := h.blk.free 4
  have f5 := h.blk.free 5
  have H1 : ∀ W, St B S gh gc m p W → St B S gh gc { m with at_ := m.at_ + 1, len := min (m.len + 1) 255 } p ((W.setCell ⟨S, 4, none⟩ (.int .i64 (m.at_ + 1))).setCell ⟨S, 5, none⟩ (.int .i64 (min (m.len + 1) 255))) := fun W h =>
    (h.put (m' := { m with at_ := m.at_ + 1 }) 4 _ rfl rfl rfl rfl).put (m' := { m with at_ := m.at_ + 1, len := min (m.len + 1) 255 }) 5 _ rfl rfl rfl rfl
  have hdr : Below w.heap.size w w.drew := below_drew _ w
  have lS := h.blk.lt
  unfold S12.extend
  have HS := Lib.hid h
  have H1 := Lib.hid H1
  clear h
  obtain ⟨bits, least, heads, bytes, at_, len, part, bit, ctrs⟩ := m
  simp only at *
  go_enter Try.func36, Try.ntmps36
  by_cases h0 : 0 < len
  · have e0 : decide (0 < len) = true := decide_eq_true h0
    rw [if_pos h0]
    have H2 := Lib.hid (H1.out _ (HS.out.step hdr))
    have w1 : IntKind.i64.wrap (at_ + 1) = at_ + 1 := IntWalk.i64_in _ (by omega)
    have w2 : IntKind.i64.wrap (len + 1) = len + 1 := IntWalk.i64_in _ (by omega)
    clear H1
    go_wp2_with fail
    refine wp_region_useq 18 19 4 [(.p, [true, true, true, true, true, true]), (.r, [false, false, false, false, false, false, true]), (.p, [false, false, false, false, false, false, false, true, true, true, true, true]), (.r, [false, false, false, false, false, false, false, false, false, false, false, false, true]), (.p, [false, false, false, false, false, false, false, false, false, false, false, false, false, true, true, true, true, true]), (.l, [false, false, false, false, false, false, false, false, false, false, false, false, false, false, false, false, false, false, true])] _ _ (HasC [(⟨S, 4, none⟩, .int .i64 at_), (⟨S, 5, none⟩, .int .i64 len)]) (by kernel_rfl) (List.take_append_drop 19 _).symm (by kernel_rfl) (by kernel_rfl) (by kernel_rfl) (by kernel_rfl) (⟨x4, x5, trivial⟩) (fun Y Q4 F4 hY hF => ?_)
    simp only [phasedU, List.flatMap_cons, List.flatMap_nil, List.take_succ_cons, List.take_zero, List.drop_succ_cons, List.drop_zero, sel_true, sel_false, sel_nil, List.map_cons, List.map_nil, List.cons_append, List.nil_append, List.append_nil]
    repeat
      first
        | (apply wpSeqU_pure (by first | rfl | (rw [hY]; rfl))
           · intro w2
             go_simp
             with_reducible rfl
           simp only [Act.put, List.setIfInBounds_toArray, List.set_cons_zero, List.set_cons_succ])
        | (apply wpSeqU_read (by first | rfl | (rw [hY]; rfl))
           · intro w2 hS2
             (try simp only [Keeps, Cells] at hS2)
             (try simp only [HasC, Cells] at hS2)
             go_simp
             with_reducible rfl
           simp only [Act.put, List.setIfInBounds_toArray, List.set_cons_zero, List.set_cons_succ])
    refine wpSeqU_last_store (by first | rfl | (rw [hY]; rfl)) (by go_simp; first | with_reducible exact ⟨rfl, rfl⟩ | with_reducible rfl) ?_
    simp only [Act.put, List.setIfInBounds_toArray, List.set_cons_zero, List.set_cons_succ]
    refine wpSeqU_done (hF.out _ _ (fun K hK => ?_))
    clear hF hY
    go_wp2_with fail
    refine OnlyK.mk (hK.out _ _ ?_)
    clear hK
    go_wp2_with fail
    go_returns
    exact ⟨rfl, H2.out, ((below_drew B w).setCell (p := ⟨S, 4, none⟩) hS _).setCell (p := ⟨S, 5, none⟩) hS _, (KeepF.of hdr).trans ((KeepF.set (HS.out.step hdr).blk (by decide)).trans (KeepF.set ((HS.out.step hdr).blk.set 4 _) (by decide)))⟩
  · have e0 : decide (0 < len) = false := decide_eq_false h0
    rw [if_neg h0]
    go_wp2_with fail
    go_returns
    exact ⟨rfl, HS.out, Below.refl _ _, KeepF.refl _⟩
end Go.Proofs.Ytbfgdaijpcbddaa

namespace Go.Proofs.Ytbfgdaijpcbddaa
open Go.RowKit

theorem S12.upd_ok {p n r : Int} (h : S08.check p n 255 = 0) (hr : r = 0 ∨ r = 1) (w : World) :
    Calls Try.prog 57 #[.agg #[.int .i64 p, .int .i64 n], .int .i64 r, .int .i64 255] w fun e w' => e = .returned (.tuple #[.agg #[.int .i64 (S08.step p n r), .int .i64 (min (n + 1) 255)], .int .i64 0]) ∧ Below w.heap.size w w' := by
  have h1 := update08_any p n r 255 w
  rw [S08.updateV_ok (by unfold S08.updateE; rw [if_neg (by omega), if_neg (by omega)])] at h1
  exact h1
set_option maxRecDepth 100000 in
set_option maxHeartbeats 2000000 in
theorem learn12_any (B S gh gc : Nat) (m : S12.M) (p : Pl) (b : Int) (w : World) (h : St B S gh gc m p w) (hc : m.ctrs.length = 16) (hck : ∀ c ∈ m.ctrs, S08.check c.1 c.2 255 = 0) (hl : 0 ≤ m.len) :
    Calls Try.prog 35 #[.pointer (some ⟨S, 0, none⟩), .int .i64 b] w fun e w' => e = .returned (.int .i64 0) ∧ St B S gh gc (S12.learn m b) p w' ∧ Below B w w' := by
  have hS := h.hs
  have hgc := h.hc
  have hBw : B ≤ w.heap.size := Nat.le_trans hS (Nat.le_of_lt h.blk.lt)
  obtain ⟨x0, x1, x2, x3, x4, x5, x6, x7, x8⟩ := h.blk.nine
  have lS := h.blk.lt
  have lc := h.oc.lt
  by_cases h0 : m.len = 0
  · have e0 : S12.learn m b = m := by unfold S12.learn; rw [if_pos h0]
    rw [e0]
    rw [h0] at x5
    have HS := Lib.hid h
    clear h hck h0 e0
    go_enter Try.func35, Try.ntmps35
    go_wp2_with fail
    go_returns
    exact ⟨rfl, HS.out, Below.refl _ _⟩
  obtain ⟨k, hk⟩ : ∃ k : Nat, min m.len.toNat 15 = k := ⟨_, rfl⟩
  obtain ⟨cp, hcp⟩ : ∃ cp, m.ctrs.getD k (0, 0) = cp := ⟨_, rfl⟩
  have hk16 : k < m.ctrs.length := by omega
  have hok : S08.check cp.1 cp.2 255 = 0 := hck cp (by rw [← hcp, S12.getD_in _ _ hk16]; exact List.getElem_mem hk16)
  have hU := fun r (hr : r = 0 ∨ r = 1) => S12.upd_ok hok hr
  have y1 : w.cell? ⟨gc, k * 2, none⟩ = some (.int .i64 cp.1) := by
    rw [h.oc.cell (by rw [Cts_length]; omega), (Cts_at hk16).1, ← hcp, S12.getD_in _ _ hk16]
  have y2 : w.cell? ⟨gc, k * 2 + 1, none⟩ = some (.int .i64 cp.2) := by
    rw [h.oc.cell (by rw [Cts_length]; omega), (Cts_at hk16).2, ← hcp, S12.getD_in _ _ hk16]
  have hlearn : S12.learn m b = if b = m.bit then { m with ctrs := m.ctrs.set k (S08.step cp.1 cp.2 1, min (cp.2 + 1) 255) } else { m with ctrs := m.ctrs.set k (S08.step cp.1 cp.2 0, min (cp.2 + 1) 255), at_ := 0, len := 0 } := by
    unfold S12.learn
    rw [if_neg h0, hk, hcp]
  have HCo := Lib.hid fun W (hb : Below w.heap.size w W) => counter12_any S m p W (h.blk.step hb) hc (by omega) gc 0 h.pc
  rw [hk] at HCo
  simp only [Nat.zero_add] at HCo
  have HU := Lib.hid hU
  have HSt := Lib.hid h
  have e0 : (m.len == 0) = false := by simp [h0]
  have H16 := Lib.hid hk16
  clear hU hck hok hcp hk h0 hl h hc hk16
  obtain ⟨p0, p1⟩ := cp
  simp only at y1 y2 hlearn HU
  obtain ⟨n1, hn1⟩ : ∃ n1, min (p1 + 1) 255 = n1 := ⟨_, rfl⟩
  rw [hn1] at hlearn HU
  clear hn1
  by_cases hbit : b = m.bit
  all_goals
    first | rw [if_pos hbit] at hlearn | rw [if_neg hbit] at hlearn
    rw [hlearn]
    clear hlearn
  · have eb : (b == m.bit) = true := by simp [hbit]
    have HU1 := Lib.hid (HU.out 1 (.inr rfl))
    obtain ⟨s1, hs1⟩ : ∃ s1, S08.step p0 p1 1 = s1 := ⟨_, rfl⟩
    rw [hs1] at HU1 ⊢
    clear HU hs1 hbit
    go_enter Try.func35, Try.ntmps35
    go_wp2_with fail
    refine (HCo.out _ (Below.refl _ _)).mono ?_
    rintro e w1 ⟨rfl, hb1⟩
    have y3 := (hb1.cell (p := ⟨gc, k * 2, none⟩) lc).trans y1
    have y4 := (hb1.cell (p := ⟨gc, k * 2 + 1, none⟩) lc).trans y2
    go_wp2_with fail
    refine (HU1.out _).mono ?_
    rintro e w2 ⟨rfl, hb2⟩
    have hB2 := below_trans hb1 hb2
    go_wp2_with fail
    obtain ⟨w3, hw3⟩ : ∃ w3, w2.alloc (Obj.cells #[Value.int IntKind.i64 s1, Value.int IntKind.i64 n1] 35) = w3 := ⟨_, rfl⟩
    have hb3 : Below w2.heap.size w2 w3 := by rw [← hw3]; exact (Below.refl _ _).alloc (Nat.le_refl _) _
    have C3 : Blk w3 w2.heap.size [.int .i64 s1, .int .i64 n1] 35 := by rw [← hw3]; exact Blk.new w2 _ _
    have hB3 := below_trans hB2 hb3
    have hC3 : Cells w3 [(⟨w2.heap.size, 0, none⟩, .int .i64 s1), (⟨w2.heap.size, 1, none⟩, .int .i64 n1)] := ⟨C3.cell 0, C3.cell 1, trivial⟩
    rw [hw3]
    refine wp_region_seq 3 2 [(true, [true, false, true]), (false, [false, true])] _ _ (Keeps w3 [(⟨w2.heap.size, 0, none⟩, .int .i64 s1), (⟨w2.heap.size, 1, none⟩, .int .i64 n1)]) (by kernel_rfl) (List.take_append_drop 3 _).symm (by kernel_rfl) (by kernel_rfl) (by kernel_rfl) (by kernel_rfl) (Keeps.start hC3) (fun Y Q4 F4 hY hF => ?_)
    simp only [phased, List.flatMap_cons, List.flatMap_nil, List.take_succ_cons, List.take_zero, List.drop_succ_cons, List.drop_zero, sel_true, sel_false, sel_nil, List.map_cons, List.map_nil, List.cons_append, List.nil_append, List.append_nil]
    repeat
      apply wpSeq_read (by first | rfl | (rw [hY]; rfl))
      · intro w2 hS2
        (try simp only [Keeps, Cells] at hS2)
        (try simp only [HasC, Cells] at hS2)
        go_simp
        with_reducible rfl
      simp only [Act.put, List.setIfInBounds_toArray, List.set_cons_zero, List.set_cons_succ]
    apply wpSeq_call (by first | rfl | (rw [hY]; rfl))
    · go_simp
      with_reducible exact ⟨rfl, rfl⟩
    refine (HCo.out _ (below_trans hB3 (Keeps.start hC3).1)).mono ?_
    rintro e w4 ⟨rfl, hb4⟩
    refine ⟨_, rfl, (Keeps.start hC3).step hb4, ?_⟩
    simp only [Act.put, List.setIfInBounds_toArray, List.set_cons_zero, List.set_cons_succ]
    refine wpSeq_done (hF.out _ _ (fun K hK => ?_))
    clear hF hY
    have hB4 : Below w.heap.size w w4 := below_trans hB3 (below_trans (Keeps.start hC3).1 hb4)
    have S4 := HSt.out.step hB4
    have g1 := S4.oc.free (k * 2)
    have g2 := S4.oc.free (k * 2 + 1)
    have y5 := (hB4.cell (p := ⟨gc, k * 2, none⟩) lc).trans y1
    have y6 := (hB4.cell (p := ⟨gc, k * 2 + 1, none⟩) lc).trans y2
    have S5 := Lib.hid (S4.putC k H16.out s1 n1)
    have hB5 : Below B w ((w4.setCell ⟨gc, k * 2, none⟩ (.int .i64 s1)).setCell ⟨gc, k * 2 + 1, none⟩ (.int .i64 n1)) := ((hB4.mono hBw).setCell (p := ⟨gc, k * 2, none⟩) hgc _).setCell (p := ⟨gc, k * 2 + 1, none⟩) hgc _
    clear y3 y4 hC3 S4
    go_wp2_with fail
    refine OnlyK.mk (hK.out _ _ ?_)
    clear hK
    go_wp2_with fail
    first
      | (go_returns
         exact ⟨rfl, S5.out, hB5⟩)
      | (refine (end12_any S _ _ _ _ _ _ _ _ _ _ S5.out.blk).mono ?_
         rintro e w6 ⟨rfl, rfl⟩
         go_wp2_with fail
         go_returns
         exact ⟨rfl, (S5.out.put (m' := { m with ctrs := m.ctrs.set k (s1, n1), at_ := 0 }) 4 _ rfl rfl rfl rfl).put (m' := { m with ctrs := m.ctrs.set k (s1, n1), at_ := 0, len := 0 }) 5 _ rfl rfl rfl rfl, (hB5.setCell (p := ⟨S, 4, none⟩) hS _).setCell (p := ⟨S, 5, none⟩) hS _⟩)
  · have eb : (b == m.bit) = false := by simp [hbit]
    have HU1 := Lib.hid (HU.out 0 (.inl rfl))
    obtain ⟨s1, hs1⟩ : ∃ s1, S08.step p0 p1 0 = s1 := ⟨_, rfl⟩
    rw [hs1] at HU1 ⊢
    clear HU hs1 hbit
    go_enter Try.func35, Try.ntmps35
    go_wp2_with fail
    refine (HCo.out _ (Below.refl _ _)).mono ?_
    rintro e w1 ⟨rfl, hb1⟩
    have y3 := (hb1.cell (p := ⟨gc, k * 2, none⟩) lc).trans y1
    have y4 := (hb1.cell (p := ⟨gc, k * 2 + 1, none⟩) lc).trans y2
    go_wp2_with fail
    refine (HU1.out _).mono ?_
    rintro e w2 ⟨rfl, hb2⟩
    have hB2 := below_trans hb1 hb2
    go_wp2_with fail
    obtain ⟨w3, hw3⟩ : ∃ w3, w2.alloc (Obj.cells #[Value.int IntKind.i64 s1, Value.int IntKind.i64 n1] 35) = w3 := ⟨_, rfl⟩
    have hb3 : Below w2.heap.size w2 w3 := by rw [← hw3]; exact (Below.refl _ _).alloc (Nat.le_refl _) _
    have C3 : Blk w3 w2.heap.size [.int .i64 s1, .int .i64 n1] 35 := by rw [← hw3]; exact Blk.new w2 _ _
    have hB3 := below_trans hB2 hb3
    have hC3 : Cells w3 [(⟨w2.heap.size, 0, none⟩, .int .i64 s1), (⟨w2.heap.size, 1, none⟩, .int .i64 n1)] := ⟨C3.cell 0, C3.cell 1, trivial⟩
    rw [hw3]
    refine wp_region_seq 3 2 [(true, [true, false, true]), (false, [false, true])] _ _ (Keeps w3 [(⟨w2.heap.size, 0, none⟩, .int .i64 s1), (⟨w2.heap.size, 1, none⟩, .int .i64 n1)]) (by kernel_rfl) (List.take_append_drop 3 _).symm (by kernel_rfl) (by kernel_rfl) (by kernel_rfl) (by kernel_rfl) (Keeps.start hC3) (fun Y Q4 F4 hY hF => ?_)
    simp only [phased, List.flatMap_cons, List.flatMap_nil, List.take_succ_cons, List.take_zero, List.drop_succ_cons, List.drop_zero, sel_true, sel_false, sel_nil, List.map_cons, List.map_nil, List.cons_append, List.nil_append, List.append_nil]
    repeat
      apply wpSeq_read (by first | rfl | (rw [hY]; rfl))
      · intro w2 hS2
        (try simp only [Keeps, Cells] at hS2)
        (try simp only [HasC, Cells] at hS2)
        go_simp
        with_reducible rfl
      simp only [Act.put, List.setIfInBounds_toArray, List.set_cons_zero, List.set_cons_succ]
    apply wpSeq_call (by first | rfl | (rw [hY]; rfl))
    · go_simp
      with_reducible exact ⟨rfl, rfl⟩
    refine (HCo.out _ (below_trans hB3 (Keeps.start hC3).1)).mono ?_
    rintro e w4 ⟨rfl, hb4⟩
    refine ⟨_, rfl, (Keeps.start hC3).step hb4, ?_⟩
    simp only [Act.put, List.setIfInBounds_toArray, List.set_cons_zero, List.set_cons_succ]
    refine wpSeq_done (hF.out _ _ (fun K hK => ?_))
    clear hF hY
    have hB4 : Below w.heap.size w w4 := below_trans hB3 (below_trans (Keeps.start hC3).1 hb4)
    have S4 := HSt.out.step hB4
    have g1 := S4.oc.free (k * 2)
    have g2 := S4.oc.free (k * 2 + 1)
    have y5 := (hB4.cell (p := ⟨gc, k * 2, none⟩) lc).trans y1
    have y6 := (hB4.cell (p := ⟨gc, k * 2 + 1, none⟩) lc).trans y2
    have S5 := Lib.hid (S4.putC k H16.out s1 n1)
    have hB5 : Below B w ((w4.setCell ⟨gc, k * 2, none⟩ (.int .i64 s1)).setCell ⟨gc, k * 2 + 1, none⟩ (.int .i64 n1)) := ((hB4.mono hBw).setCell (p := ⟨gc, k * 2, none⟩) hgc _).setCell (p := ⟨gc, k * 2 + 1, none⟩) hgc _
    clear y3 y4 hC3 S4
    go_wp2_with fail
    refine OnlyK.mk (hK.out _ _ ?_)
    clear hK
    go_wp2_with fail
    first
      | (go_returns
         exact ⟨rfl, S5.out, hB5⟩)
      | (refine (end12_any S _ _ _ _ _ _ _ _ _ _ S5.out.blk).mono ?_
         rintro e w6 ⟨rfl, rfl⟩
         go_wp2_with fail
         go_returns
         exact ⟨rfl, (S5.out.put (m' := { m with ctrs := m.ctrs.set k (s1, n1), at_ := 0 }) 4 _ rfl rfl rfl rfl).put (m' := { m with ctrs := m.ctrs.set k (s1, n1), at_ := 0, len := 0 }) 5 _ rfl rfl rfl rfl, (hB5.setCell (p := ⟨S, 4, none⟩) hS _).setCell (p := ⟨S, 5, none⟩) hS _⟩)
end Go.Proofs.Ytbfgdaijpcbddaa
