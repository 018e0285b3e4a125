/- Copies of the lists of a model (layer 12). Bit (layer 12): the model behind a further bit. No condition. -/
import Derived.Test.YtbfgdaijpcbddaaW12n
set_option linter.unusedSimpArgs false
set_option linter.unusedVariables false
set_option linter.unusedSectionVars false
namespace Go.Proofs.Ytbfgdaijpcbddaa
open Go.RowKit

theorem elems_bytes : Elems Try.prog 22 5 1 1 [.int .u8 0] := ⟨Try.underlying22, by kernel_rfl, rfl, by decide⟩
theorem Bts_one (xs : List Int) : ∀ u ∈ Bts xs, u.oneCell' = true := by
  intro u hu
  obtain ⟨x, _, rfl⟩ := List.mem_map.1 hu
  rfl
theorem Ints_one (xs : List Int) : ∀ u ∈ Ints xs, u.oneCell' = true := by
  intro u hu
  obtain ⟨x, _, rfl⟩ := List.mem_map.1 hu
  rfl
theorem Cts_one (xs : List (Int × Int)) : ∀ u ∈ Cts xs, u.oneCell' = true := by
  intro u hu
  simp only [Cts, List.mem_flatMap] at hu
  obtain ⟨x, _, hu⟩ := hu
  simp at hu
  rcases hu with rfl | rfl <;> rfl
theorem Own.of_owns {w : World} {base : Nat} {e : TypeId} {size n cap : Nat} {a : Option Addr} {xs : List Value} (h : w.ownsRow base e size (.slice a n cap) n xs) (hne : 1 ≤ n) (hs : 1 ≤ size) : ∃ g, a = some ⟨g, 0, none⟩ ∧ base ≤ g ∧ Own w g e xs := by
  rcases h.2 with ⟨h', h0⟩ | ⟨g, cap', cur, h', hbg, hg, hnc, hcm, hcs, htake⟩
  · omega
  · simp only [Value.slice.injEq, true_and] at h'
    obtain ⟨rfl, rfl⟩ := h'
    refine ⟨g, rfl, hbg, cur.toList.drop xs.length, ?_⟩
    have : cur.toList = xs ++ cur.toList.drop xs.length := by
      rw [← htake]
      conv => lhs; rw [← List.take_append_drop (n * size) cur.toList]
      congr 2
      rw [List.length_take]
      have : cur.toList.length = cap * size := by simpa using hcs
      have := Nat.mul_le_mul_right size hnc
      omega
    rw [← this]
    exact hg

set_option maxHeartbeats 400000 in
theorem cloneInts12_any (xs : List Int) (a : Option Addr) (cap : Nat) (w : World) (h1 : 1 ≤ xs.length) (h2 : xs.length ≤ 65536) (hrd : Rd w a (Ints xs)) :
    Calls Try.prog 32 #[.slice a xs.length cap] w fun e w' => ∃ b cap', e = .returned (.slice (some ⟨b, 0, none⟩) xs.length cap') ∧ w.heap.size ≤ b ∧ Own w' b 3 (Ints xs) ∧ Below w.heap.size w w' := by
  obtain ⟨g, o, rfl, _⟩ := hrd.at (i := 0) (by rw [Ints_length]; omega)
  have qT : ∀ (w : World) (a : Option Addr) (n c n' c' : Nat), (binOp .eql 24 (.slice a n c) (.slice none n' c')).run Try.prog w = .ok (.bool a.isNone) w := fun w a n c n' c' => Lib.run_eql_slice_nil w _ _ a n c n' c' Try.underlying24
  have hrd' := Lib.hid (hrd.step ((Below.refl w.heap.size w).alloc (Nat.le_refl _) (Obj.cells #[] 3)))
  go_enter Try.func32, Try.ntmps32
  go_wp2_with (at_builtin; refine wpList_append_rd _ _ 24 3 1 8 _ w.heap.size elems_int12 rfl rfl _ 0 [] rfl (World.ownsRow_made w #[] 0 (Nat.le_refl _) (by decide) rfl) (some ⟨g, o, none⟩) xs.length cap (Ints xs) rfl (by simp [Ints]) hrd'.out (Ints_one xs) (by unfold maxLen; omega) (by omega) (by simp) ?_; intro a2 cap2 w2 hown2 hgrow2)
  have hB2 : Below w.heap.size w w2 := Below.grown (by go_grown) hgrow2 (by simp) (fun k e => by cases e; exact Nat.le_refl _)
  simp only [Nat.zero_add, List.nil_append] at hown2
  obtain ⟨b, rfl, hb, hok⟩ := Own.of_owns hown2 h1 (by decide)
  have hc := Lib.hid hok
  clear hgrow2 hown2 hok
  go_wp2
  go_returns
  exact ⟨b, cap2, by simp, hb, hc.out, hB2⟩
set_option maxHeartbeats 400000 in
theorem cloneCts12_any (xs : List (Int × Int)) (a : Option Addr) (cap : Nat) (w : World) (h1 : 1 ≤ xs.length) (h2 : xs.length ≤ 65536) (hrd : Rd w a (Cts xs)) :
    Calls Try.prog 34 #[.slice a xs.length cap] w fun e w' => ∃ b cap', e = .returned (.slice (some ⟨b, 0, none⟩) xs.length cap') ∧ w.heap.size ≤ b ∧ Own w' b 35 (Cts xs) ∧ Below w.heap.size w w' := by
  obtain ⟨g, o, rfl, _⟩ := hrd.at (i := 0) (by rw [Cts_length]; omega)
  have qT : ∀ (w : World) (a : Option Addr) (n c n' c' : Nat), (binOp .eql 25 (.slice a n c) (.slice none n' c')).run Try.prog w = .ok (.bool a.isNone) w := fun w a n c n' c' => Lib.run_eql_slice_nil w _ _ a n c n' c' Try.underlying25
  have hrd' := Lib.hid (hrd.step ((Below.refl w.heap.size w).alloc (Nat.le_refl _) (Obj.cells #[] 35)))
  go_enter Try.func34, Try.ntmps34
  go_wp2_with (at_builtin; refine wpList_append_rd _ _ 25 35 2 16 _ w.heap.size elems_ctrs rfl rfl _ 0 [] rfl (World.ownsRow_made w #[] 0 (Nat.le_refl _) (by decide) rfl) (some ⟨g, o, none⟩) xs.length cap (Cts xs) rfl (by rw [Cts_length]) hrd'.out (Cts_one xs) (by unfold maxLen; omega) (by omega) (by simp) ?_; intro a2 cap2 w2 hown2 hgrow2)
  have hB2 : Below w.heap.size w w2 := Below.grown (by go_grown) hgrow2 (by simp) (fun k e => by cases e; exact Nat.le_refl _)
  simp only [Nat.zero_add, List.nil_append] at hown2
  obtain ⟨b, rfl, hb, hok⟩ := Own.of_owns hown2 h1 (by decide)
  have hc := Lib.hid hok
  clear hgrow2 hown2 hok
  go_wp2
  go_returns
  exact ⟨b, cap2, by simp, hb, hc.out, hB2⟩
set_option maxHeartbeats 400000 in
theorem cloneBytes12_any (xs : List Int) (a : Option Addr) (cap : Nat) (w : World) (h2 : xs.length ≤ 65536) (hrd : Rd w a (Bts xs)) :
    Calls Try.prog 33 #[.slice a xs.length cap] w fun e w' => ∃ a' cap', e = .returned (.slice a' xs.length cap') ∧ w'.ownsRow w.heap.size 5 1 (.slice a' xs.length cap') xs.length (Bts xs) ∧ Below w.heap.size w w' := by
  have qT : ∀ (w : World) (a : Option Addr) (n c n' c' : Nat), (binOp .eql 22 (.slice a n c) (.slice none n' c')).run Try.prog w = .ok (.bool a.isNone) w := fun w a n c n' c' => Lib.run_eql_slice_nil w _ _ a n c n' c' Try.underlying22
  cases a with
  | none =>
    have hx : xs = [] := by
      cases hxs : xs with
      | nil => rfl
      | cons x r => obtain ⟨b, o, e, _⟩ := hrd (by rw [hxs]; simp [Bts]); cases e
    subst hx
    go_enter Try.func33, Try.ntmps33
    go_wp2_with fail
    go_returns
    exact ⟨none, 0, rfl, World.ownsRow_nil w _ _ 1, Below.refl _ _⟩
  | some a =>
    have hrd' := Lib.hid (hrd.step ((Below.refl w.heap.size w).alloc (Nat.le_refl _) (Obj.cells #[] 5)))
    go_enter Try.func33, Try.ntmps33
    go_wp2_with (at_builtin; refine wpList_append_rd _ _ 22 5 1 1 _ w.heap.size elems_bytes rfl rfl _ 0 [] rfl (World.ownsRow_made w #[] 0 (Nat.le_refl _) (by decide) rfl) (some a) xs.length cap (Bts xs) rfl (by simp [Bts]) hrd'.out (Bts_one xs) (by unfold maxLen; omega) (by omega) (by simp) ?_; intro a2 cap2 w2 hown2 hgrow2)
    have hB2 : Below w.heap.size w w2 := Below.grown (by go_grown) hgrow2 (by simp) (fun k e => by cases e; exact Nat.le_refl _)
    simp only [Nat.zero_add, List.nil_append] at hown2
    have hc := Lib.hid hown2
    clear hgrow2 hown2
    go_wp2
    go_returns
    exact ⟨a2, cap2, by simp, hc.out, hB2⟩
end Go.Proofs.Ytbfgdaijpcbddaa

namespace Go.Proofs.Ytbfgdaijpcbddaa
open Go.RowKit

theorem St.mis {B S gh gc : Nat} {m : S12.M} {p : Pl} {w : World} (h : St B S gh gc m p w) (hb : S12.Byt m.bytes) (h1 : m.heads.length ≤ 65536) (h2 : m.bytes.length ≤ 65536) (h3 : m.ctrs.length ≤ 65536) : MIs m p w := by
  refine ⟨by rw [h.ph]; exact h.oh.rd, Rd.of_owns h.ob, by rw [h.pc]; exact h.oc.rd, hb, ?_, by omega, by omega, by omega⟩
  obtain ⟨a, c, e, h4, h5⟩ := owns_slice h.ob
  simp at e
  omega
theorem St.mono {B B' S gh gc : Nat} {m : S12.M} {p : Pl} {w : World} (h : St B S gh gc m p w) (hb : B' ≤ B) (hy : w.ownsRow B' 5 1 (.slice p.ab m.bytes.length p.cb) m.bytes.length (Bts m.bytes)) : St B' S gh gc m p w :=
  ⟨h.blk, h.ph, h.pc, Nat.le_trans hb h.hs, Nat.le_trans hb h.hh, Nat.le_trans hb h.hc, h.oh, h.oc, hy⟩
theorem owns_base {w : World} {B B' : Nat} {e : TypeId} {size n : Nat} {v : Value} {xs : List Value} (h : w.ownsRow B e size v n xs) (hb : B' ≤ B) : w.ownsRow B' e size v n xs := by
  refine ⟨h.1, ?_⟩
  rcases h.2 with h' | ⟨g, cap', cur, h', hb', r⟩
  · exact .inl h'
  · exact .inr ⟨g, cap', cur, h', Nat.le_trans hb hb', r⟩

theorem Blk.grownO {w w' : World} {b : Nat} {cs : List Value} {t : TypeId} {base n cap : Nat} {e : TypeId} {a : Option Addr} {xs : List Value} (h : Blk w b cs t) (ho : w.ownsRow base e 1 (.slice a n cap) n xs) (he : ¬ e = t) (hg : w.grownBy w' (Value.slice a n cap).ownBlock) : Blk w' b cs t := by
  have hne := own_apart ho h he
  have hl := h.lt
  obtain ⟨_, _, _, _, hk⟩ := hg
  unfold Blk at h ⊢
  rw [hk b hl (fun e => hne e.symm)]
  exact h
theorem Own.grownO {w w' : World} {g : Nat} {vals : List Value} {t : TypeId} {base n cap : Nat} {e : TypeId} {a : Option Addr} {xs : List Value} (h : Own w g t vals) (ho : w.ownsRow base e 1 (.slice a n cap) n xs) (he : ¬ e = t) (hg : w.grownBy w' (Value.slice a n cap).ownBlock) : Own w' g t vals := by
  obtain ⟨r, h⟩ := h
  exact ⟨r, h.grownO ho he hg⟩
theorem Bts_app (l : List Int) (y : Int) : Bts (l ++ [y]) = Bts l ++ [.int .u8 y] := by simp [Bts]

theorem S12.WF.sizes {m : S12.M} (h : S12.WF m) : m.heads.length ≤ 65536 ∧ m.bytes.length ≤ 65536 ∧ m.ctrs.length ≤ 65536 := by
  refine ⟨?_, h.few, by have := h.ctrs; omega⟩
  rw [h.heads]
  exact Nat.pow_le_pow_right (n := 2) (by omega) (show m.bits.toNat ≤ 16 by have := h.bits; omega)
theorem MIs.put9 {m : S12.M} {p : Pl} {w : World} (h : MIs m p w) {b : Nat} (h1 : ∀ g o, p.ah = some ⟨g, o, none⟩ → Ints m.heads ≠ [] → ¬ g = b) (h2 : ∀ g o, p.ab = some ⟨g, o, none⟩ → Bts m.bytes ≠ [] → ¬ g = b) (h3 : ∀ g o, p.ac = some ⟨g, o, none⟩ → Cts m.ctrs ≠ [] → ¬ g = b) (v0 v1 v2 v3 v4 v5 v6 v7 v8 : Value) :
    MIs m p (((((((((w.setCell ⟨b, 0, none⟩ v0).setCell ⟨b, 1, none⟩ v1).setCell ⟨b, 2, none⟩ v2).setCell ⟨b, 3, none⟩ v3).setCell ⟨b, 4, none⟩ v4).setCell ⟨b, 5, none⟩ v5).setCell ⟨b, 6, none⟩ v6).setCell ⟨b, 7, none⟩ v7).setCell ⟨b, 8, none⟩ v8) :=
  ⟨h.rdh.put9 h1 _ _ _ _ _ _ _ _ _, h.rdb.put9 h2 _ _ _ _ _ _ _ _ _, h.rdc.put9 h3 _ _ _ _ _ _ _ _ _, h.byt, h.cb, h.lh, h.lb, h.lc⟩
theorem St.apart {B S gh gc : Nat} {m : S12.M} {p : Pl} {w : World} (h : St B S gh gc m p w) {r : Nat} (hr : r < B) :
    (∀ g o, p.ah = some ⟨g, o, none⟩ → Ints m.heads ≠ [] → ¬ g = r) ∧ (∀ g o, p.ab = some ⟨g, o, none⟩ → Bts m.bytes ≠ [] → ¬ g = r) ∧ (∀ g o, p.ac = some ⟨g, o, none⟩ → Cts m.ctrs ≠ [] → ¬ g = r) := by
  refine ⟨fun g o e _ => ?_, fun g o e _ => ?_, fun g o e _ => ?_⟩
  · rw [h.ph] at e; cases e; have := h.hh; omega
  · have := h.ob.lt g (by rw [e]; rfl); omega
  · rw [h.pc] at e; cases e; have := h.hc; omega

theorem St.far {B S gh gc : Nat} {m : S12.M} {p : Pl} {w : World} (h : St B S gh gc m p w) : Far B p := by
  refine ⟨fun g o e => ?_, fun g o e => ?_, fun g o e => ?_⟩
  · rw [h.ph] at e; cases e; exact h.hh
  · exact (h.ob.lt g (by rw [e]; rfl)).1
  · rw [h.pc] at e; cases e; exact h.hc
theorem S12.extend_keeps (m : S12.M) : (S12.extend m).bits = m.bits ∧ (S12.extend m).least = m.least ∧ (S12.extend m).heads = m.heads ∧ (S12.extend m).bytes = m.bytes ∧ (S12.extend m).part = m.part ∧ (S12.extend m).ctrs = m.ctrs := by
  unfold S12.extend; split <;> exact ⟨rfl, rfl, rfl, rfl, rfl, rfl⟩
theorem S12.search_bytes (m : S12.M) : (S12.search m).bytes = m.bytes := by unfold S12.search; split <;> rfl
theorem S12.Byt.app {l : List Int} {y : Int} (h : S12.Byt l) (hy : 0 ≤ y ∧ y < 256) : S12.Byt (l ++ [y]) := fun z hz => by
  rcases List.mem_append.1 hz with hz | hz
  · exact h z hz
  · rw [List.mem_singleton.1 hz]; exact hy
/-- A complete byte's steps, one after another. -/
def S12.stepN (m : S12.M) : Nat → S12.M
  | 0 => m
  | 1 => S12.extend m
  | _ => S12.search (S12.extend m)
/-- What the steps of a complete byte ask of a model. -/
structure S12.Full (k : S12.M) : Prop where
  len : 0 ≤ k.len ∧ k.len ≤ 255
  at_ : 0 ≤ k.at_ ∧ k.at_ ≤ 1000000
  bits : 1 ≤ (S12.extend k).bits ∧ (S12.extend k).bits ≤ 16
  least : 1 ≤ (S12.extend k).least ∧ (S12.extend k).least ≤ 32
  few : (S12.extend k).bytes.length ≤ 65537
  byt : S12.Byt (S12.extend k).bytes
  heads : (S12.extend k).heads.length = 2 ^ (S12.extend k).bits.toNat
  head : ∀ x ∈ (S12.extend k).heads, 0 ≤ x ∧ x ≤ (S12.extend k).bytes.length
theorem S12.full_ok {m n : S12.M} {b y : Int} (h : S12.WF m) (hL : S12.Lrn m n b) (hB : S12.Byt m.bytes) (hy : 0 ≤ y ∧ y < 256) : S12.Full { n with bytes := n.bytes ++ [y], part := 1 } := by
  obtain ⟨e1, e2, e3, e4, e5, e6⟩ := S12.extend_keeps { n with bytes := n.bytes ++ [y], part := 1 }
  have hfew := h.few
  have hl : (0 ≤ n.len ∧ n.len ≤ 255) ∧ (0 ≤ n.at_ ∧ n.at_ ≤ 1000000) := by
    rcases hL.alt with ⟨a1, a2⟩ | ⟨a1, a2, a3, a4⟩
    · omega
    · have hM := h.Mat a1
      have := hM.len
      have := hM.at_
      omega
  refine ⟨hl.1, hl.2, ?_, ?_, ?_, ?_, ?_, ?_⟩
  · rw [e1]; simp only [hL.bits]; exact h.bits
  · rw [e2]; simp only [hL.least]; exact h.least
  · rw [e4]; simp only [hL.bytes, List.length_append, List.length_singleton]; omega
  · rw [e4]; simp only [hL.bytes]; exact hB.app hy
  · rw [e3, e1]; simp only [hL.heads, hL.bits]; exact h.heads
  · rw [e3, e4]; simp only [hL.heads, hL.bytes, List.length_append, List.length_singleton]
    intro x hx
    have := h.head x hx
    omega
end Go.Proofs.Ytbfgdaijpcbddaa
