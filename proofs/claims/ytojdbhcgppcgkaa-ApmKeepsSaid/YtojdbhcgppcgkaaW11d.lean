/- Copies, comparing, and a step of learning (layer 11). No condition. -/
import Derived.Test.YtojdbhcgppcgkaaW11c
import Derived.Test.YtojdbhcgppcgkaaBase4
set_option linter.unusedSimpArgs false
set_option linter.unusedVariables false
set_option linter.unusedSectionVars false
namespace Go.Proofs.Ytojdbhcgppcgkaa
open Go.RowKit

/-- Two lists of numbers that are the same. -/
theorem sameInts_eq (xs : List Int) (a1 a2 : Option Addr) (c1 c2 : Nat) (w : World) (hlen : xs.length ≤ 9223372036854775807) (hr1 : Rd w a1 (Ints xs)) (hr2 : Rd w a2 (Ints xs)) :
    Calls Try.prog 27 #[.slice a1 xs.length c1, .slice a2 xs.length c2] w fun e w' => e = .returned (.bool true) ∧ Below w.heap.size w w' := by
  go_enter Try.func27, Try.ntmps27
  go_wp2
  go_loopw [5] (fun i wr => ∃ k : Nat, k ≤ xs.length ∧ i = .int .i64 k ∧ Below w.heap.size w wr) (fun i _ => xs.length - (intOf i).toNat)
  case atStart => exact ⟨0, by omega, rfl, Below.refl _ _⟩
  case round =>
    obtain ⟨k, hk, rfl, hB⟩ := hrel
    have zr : w.heap.size ≤ wr.heap.size := hB.size
    by_cases hlt : k < xs.length
    · obtain ⟨g1, o1, rfl, hcs1⟩ := (hr1.step hB).at (i := k) (by rw [Ints_length]; exact hlt)
      obtain ⟨g2, o2, rfl, hcs2⟩ := (hr2.step hB).at (i := k) (by rw [Ints_length]; exact hlt)
      have hc1 : wr.cell? ⟨g1, o1 + k, none⟩ = some (.int .i64 xs[k]) := by rw [hcs1 k (by rw [Ints_length]; exact hlt)]; simp [Ints]
      have hc2 : wr.cell? ⟨g2, o2 + k, none⟩ = some (.int .i64 xs[k]) := by rw [hcs2 k (by rw [Ints_length]; exact hlt)]; simp [Ints]
      generalize xs[k] = x at *
      clear hcs1 hcs2
      have hlt2 : (k : Int) < xs.length := by omega
      go_wp2
      go_quiet (fail)
      go_wp2
      go_roundw
      case rel => exact ⟨k + 1, by omega, by go_num, belowN hB _⟩
      case measure => simp [intOf]; omega
    · obtain rfl : k = xs.length := by omega
      go_wp2
      go_returns
      exact ⟨rfl, hB⟩

theorem same11_eq (xs : List Int) (a1 a2 : Option Addr) (c1 c2 : Nat) (w : World) (hlen : xs.length ≤ 9223372036854775807) (hr1 : Rd w a1 (Ints xs)) (hr2 : Rd w a2 (Ints xs)) :
    Calls Try.prog 14 #[.agg #[.slice a1 xs.length c1], .agg #[.slice a2 xs.length c2]] w fun e w' => e = .returned (.bool true) ∧ Below w.heap.size w w' := by
  have HS := Lib.hid fun W (hb : Below w.heap.size w W) => sameInts_eq xs a1 a2 c1 c2 W hlen (hr1.step hb) (hr2.step hb)
  clear hr1 hr2
  generalize xs.length = n at *
  go_enter Try.func14, Try.ntmps14
  go_wp2_with fail
  refine (HS.out _ (by go_grown)).mono ?_
  rintro e w1 ⟨rfl, hb1⟩
  have hB1 : Below w.heap.size w w1 := below_trans (by go_grown) hb1
  have z1 : w.heap.size ≤ w1.heap.size := hB1.size
  go_wp2
  go_returns
  exact ⟨rfl, hB1⟩

theorem few11_any (n : Nat) (a : Option Addr) (cap : Nat) (w : World) (hlen : n ≤ 9223372036854775807) :
    Calls Try.prog 10 #[.agg #[.slice a n cap]] w fun e w' => e = .returned (.bool (decide ((n : Int) ≤ 1000))) ∧ Below w.heap.size w w' := by
  go_enter Try.func10, Try.ntmps10
  go_wp2
  go_returns
  exact ⟨rfl, by go_grown⟩

/-- What a copy leaves: a row of the call's own. -/
def Copied (w0 : World) (xs : List Int) (V : Value) (w' : World) : Prop :=
  ∃ g cap, V = .slice (some ⟨g, 0, none⟩) xs.length cap ∧ xs.length ≤ cap ∧ cap ≤ 9223372036854775807 ∧ w'.ownsRow w0.heap.size 3 1 (.slice (some ⟨g, 0, none⟩) xs.length cap) xs.length (Ints xs) ∧ Below w0.heap.size w0 w'
theorem copied_of {w0 w' : World} {xs : List Int} {a : Option Addr} {cap : Nat} (h : w'.ownsRow w0.heap.size 3 1 (.slice a xs.length cap) xs.length (Ints xs)) (hb : Below w0.heap.size w0 w') (hne : 1 ≤ xs.length) : Copied w0 xs (.slice a xs.length cap) w' := by
  obtain ⟨g, o, rfl, _⟩ := (Rd.of_owns h).at (i := 0) (by rw [Ints_length]; omega)
  obtain rfl : o = 0 := by
    rcases h.2 with ⟨h', _⟩ | ⟨g', cap', cur, h', _⟩
    · simp at h'
    · simp at h'; exact h'.1.2
  obtain ⟨_, _, h1, h2, h3⟩ := owns_slice h
  simp at h1
  obtain ⟨rfl, rfl⟩ := h1
  unfold maxLen at h3
  exact ⟨g, _, rfl, h2, h3, h, hb⟩

set_option maxHeartbeats 400000 in
theorem clone11_any (xs : List Int) (g o cap : Nat) (w : World) (h1 : 1 ≤ xs.length) (h2 : xs.length ≤ 2162688) (hrd : Rd w (some ⟨g, o, none⟩) (Ints xs)) :
    Calls Try.prog 36 #[.slice (some ⟨g, o, none⟩) xs.length cap] w fun e w' => ∃ V, e = .returned V ∧ Copied w xs V w' := by
  have qT : ∀ (w : World) (a : Option Addr) (n c n' c' : Nat), (binOp .eql 22 (.slice a n c) (.slice none n' c')).run Try.prog w = .ok (.bool a.isNone) w := fun w a n c n' c' => Lib.run_eql_slice_nil w _ _ a n c n' c' Try.underlying22
  have hrd' := Lib.hid (hrd.step ((Below.refl w.heap.size w).alloc (Nat.le_refl _) (Obj.cells #[] 3)))
  go_enter Try.func36, Try.ntmps36
  go_wp2_with (at_builtin; refine wpList_append_rd _ _ 22 3 1 8 _ w.heap.size elems_ints rfl rfl _ 0 [] rfl (World.ownsRow_made w #[] 0 (Nat.le_refl _) (by decide) rfl) (some ⟨g, o, none⟩) xs.length cap (Ints xs) rfl (by simp [Ints]) hrd'.out (Ints_one xs) (by unfold maxLen; omega) (by omega) (by simp) ?_; intro a2 cap2 w2 hown2 hgrow2)
  have hB2 : Below w.heap.size w w2 := Below.grown (by go_grown) hgrow2 (by simp) (fun k e => by cases e; exact Nat.le_refl _)
  simp only [Nat.zero_add, List.nil_append] at hown2
  have hc := Lib.hid (copied_of hown2 hB2 h1)
  clear hgrow2 hown2
  go_wp2
  go_returns
  first | exact ⟨_, rfl, hc.out⟩ | (refine ⟨_, rfl, ?_⟩; simpa using hc.out)

theorem own_apart {w : World} {base : Nat} {e t : TypeId} {n cap b : Nat} {a : Option Addr} {xs cs : List Value} (h : w.ownsRow base e 1 (.slice a n cap) n xs) (hb : Blk w b cs t) (hne : ¬ e = t) : (Value.slice a n cap).ownBlock ≠ some b := by
  intro hg
  rcases h.2 with ⟨h', _⟩ | ⟨g2, cap', cur, h', _, hg2, _⟩
  · simp at h'
    obtain ⟨rfl, _, _⟩ := h'
    simp [Value.ownBlock] at hg
  · simp only [Value.slice.injEq] at h'
    obtain ⟨rfl, _, _⟩ := h'
    simp [Value.ownBlock] at hg
    subst hg
    unfold Blk at hb
    rw [hb] at hg2
    simp at hg2
    exact hne hg2.2.symm

theorem ownS {w w' : World} {base : Nat} {e : TypeId} {size n : Nat} {v : Value} {xs : List Value} (h : w.ownsRow base e size v n xs) (hb : Below w.heap.size w w') : w'.ownsRow base e size v n xs := owns_step (B := 0) h hb

theorem grown_setCell (w : World) (b i : Nat) (v : Value) : w.grownBy (w.setCell ⟨b, i, none⟩ v) (some b) :=
  ⟨rfl, rfl, rfl, by simp, fun j _ hne => heap_setCell_other w ⟨b, i, none⟩ j v (fun e => hne (by rw [e]))⟩

theorem copy_facts {w w2 : World} {xs : List Int} {a2 : Option Addr} {cap2 : Nat} {x : Value} (hown2 : w2.ownsRow w.heap.size 3 1 (.slice a2 xs.length cap2) xs.length (Ints xs)) (h1 : 1 ≤ xs.length)
    (hgrow2 : ((w.alloc (Obj.cells #[x] 24)).alloc (Obj.cells #[.slice none 0 0] 24)).grownBy w2 (Value.slice none 0 0).ownBlock) :
    w.heap.size + 1 < w2.heap.size ∧ w2.cell? ⟨w.heap.size + 1, 0, none⟩ = some (.slice none 0 0) ∧ w2.frozen? ⟨w.heap.size + 1, 0, none⟩ = false ∧
    (w2.setCell ⟨w.heap.size + 1, 0, none⟩ (.slice a2 xs.length cap2)).cell? ⟨w.heap.size + 1, 0, none⟩ = some (.slice a2 xs.length cap2) ∧ Copied w xs (.slice a2 xs.length cap2) (w2.setCell ⟨w.heap.size + 1, 0, none⟩ (.slice a2 xs.length cap2)) := by
  have hBx : Below (w.heap.size + 2) ((w.alloc (Obj.cells #[x] 24)).alloc (Obj.cells #[.slice none 0 0] 24)) w2 := Below.grown (Below.refl _ _) hgrow2 (by simp) (fun k e => by cases e)
  have hB2 : Below w.heap.size w w2 := (by go_grown : Below w.heap.size w _).trans (hBx.mono (by omega))
  have hres : Blk w2 (w.heap.size + 1) [.slice none 0 0] 24 := by
    have h0 := Blk.new (w.alloc (Obj.cells #[x] 24)) [.slice none 0 0] 24
    have := h0.below hBx (by simp)
    simpa using this
  refine ⟨hres.lt, hres.cell 0, hres.free 0, (hres.set 0 _).cell 0, ?_⟩
  have ha := own_apart hown2 hres (by decide)
  exact copied_of (hown2.kept (grown_setCell _ _ _ _) (.inr ha)) (hB2.setCell (by simp) _) h1

set_option maxHeartbeats 400000 in
theorem copy11_any (xs : List Int) (g o cap : Nat) (w : World) (h1 : 1 ≤ xs.length) (h2 : xs.length ≤ 2162688) (hrd : Rd w (some ⟨g, o, none⟩) (Ints xs)) :
    Calls Try.prog 38 #[.agg #[.slice (some ⟨g, o, none⟩) xs.length cap]] w fun e w' => ∃ V, e = .returned (.agg #[V]) ∧ Copied w xs V w' := by
  have hrd' := Lib.hid fun W (hb : Below w.heap.size w W) => hrd.step hb
  go_enter Try.func38, Try.ntmps38
  go_wp2_with (at_builtin; refine wpList_append_rd _ _ 22 3 1 8 _ w.heap.size elems_ints rfl rfl _ 0 [] rfl (World.ownsRow_nil _ _ _ _) (some ⟨g, o, none⟩) xs.length cap (Ints xs) rfl (by simp [Ints]) (hrd'.out _ (by go_grown)) (Ints_one xs) (by unfold maxLen; omega) (by omega) (by simp; omega) ?_; intro a2 cap2 w2 hown2 hgrow2; simp only [Nat.zero_add, List.nil_append] at hown2 ⊢; have hF := copy_facts hown2 h1 hgrow2; obtain ⟨s0, c0, f0, g0, hc⟩ := hF; have Hc := Lib.hid hc; clear hc hown2 hgrow2)
  refine bodyPost_ret (v := .agg #[.slice a2 xs.length cap2]) (by simp [results, Try.results38, go_sem, g0]) rfl ⟨_, rfl, ?_⟩
  exact Hc.out
end Go.Proofs.Ytojdbhcgppcgkaa
