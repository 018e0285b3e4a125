/- The walk of Learn (layer 13). No condition. -/
import Derived.Test.YtkpkkbpfcchgaaaW13o
set_option linter.unusedSimpArgs false
set_option linter.unusedVariables false
set_option linter.unusedSectionVars false
namespace Go.Proofs.Ytkpkkbpfcchgaaa
open Go.RowKit

/-- The sets that have learned. -/
def S13.learnL (L : List (List Int)) (c : Nat) (xs : List Int) (bit rate : Int) : List (List Int) :=
  L.set c (S13.learnRow (4096 * bit - S06.squash (S13.mix (L.getD c []) xs)) rate (L.getD c []) xs)

theorem Ints_set13 (xs : List Int) (i : Nat) (v : Int) : Ints (xs.set i v) = (Ints xs).set i (.int .i64 v) := by simp [Ints, List.map_set]
theorem enterLearn (a b c p q r : Value) (w : World) : (callFunc 34 #[a, b, c, p, q, r]).run Try.prog w = .ok (.enter 34 #[a, b, c, p, q, r]) w := by kernel_rfl

set_option maxHeartbeats 1000000 in
/-- visit with Learn's closure: the row learns, nothing else is changed. -/
theorem visitLearn13_any (ws xs : List Int) (d rate : Int) (bd br bw b cap gx ox cx : Nat) (cs : List Value) (w : World) (hl : ws.length = xs.length) (h16 : xs.length ≤ 16)
    (hws : ∀ x ∈ ws, -1048576 ≤ x ∧ x ≤ 1048576) (hxs : ∀ x ∈ xs, -3071 ≤ x ∧ x ≤ 3071) (hd : -4096 ≤ d ∧ d ≤ 4096) (hr : 0 ≤ rate ∧ rate ≤ 255)
    (kd : Blk w bd [.int .i64 d] 3) (kr : Blk w br [.int .i64 rate] 3) (kw : Blk w bw [.slice (some ⟨b, 0, none⟩) xs.length cap] 36) (kb : Blk w b cs 3) (hcs : cs.take xs.length = Ints ws)
    (hbd : ¬ bd = b) (hbr : ¬ br = b) (hgx : ¬ gx = b) (hrx : ∀ k, k < xs.length → w.cell? ⟨gx, ox + k, none⟩ = some (.int .i64 (xs.getD k 0))) :
    Calls Try.prog 36 #[.agg #[.func (.func 34) #[] #[.pointer (some ⟨bd, 0, none⟩), .pointer (some ⟨br, 0, none⟩), .pointer (some ⟨bw, 0, none⟩)]], .slice (some ⟨b, 0, none⟩) xs.length cap, .slice (some ⟨gx, ox, none⟩) xs.length cx] w fun e w' =>
      e = .returned (.tuple #[]) ∧ (∃ cs', Blk w' b cs' 3 ∧ cs'.take xs.length = Ints (S13.learnRow d rate ws xs)) ∧ w.grownBy w' (some b) := by
  have hbw : ¬ bw = b := fun e => by
    rw [e] at kw; unfold Blk at kw kb; rw [kb] at kw; simp at kw
  have hcl : xs.length ≤ cs.length := by
    have := congrArg List.length hcs
    rw [List.length_take, Ints_length] at this; omega
  have hvis := visit13_any 34 #[.pointer (some ⟨bd, 0, none⟩), .pointer (some ⟨br, 0, none⟩), .pointer (some ⟨bw, 0, none⟩)] (fun a b c W => enterLearn a b c _ _ _ W) xs.length b 0 cap gx ox cx (fun k => ws.getD k 0) (fun k => xs.getD k 0)
    (fun k W => (∃ cs', Blk W b cs' 3 ∧ cs'.take xs.length = Ints (S13.upd d rate ws xs k) ∧ k ≤ xs.length) ∧ w.grownBy W (some b))
    (fun k W W' h hb => by
      obtain ⟨⟨cs', h1, h2, h3⟩, h4⟩ := h
      exact ⟨⟨cs', h1.step hb, h2, h3⟩, h4.trans (below_grown hb _)⟩)
    (fun k W hk h => by
      obtain ⟨⟨cs', h1, h2, h3⟩, h4⟩ := h
      refine ⟨?_, ?_⟩
      · rw [Nat.zero_add, h1.cell]
        have h5 : (cs'.take xs.length)[k]? = some (.int .i64 (ws.getD k 0)) := by
          rw [h2, Ints, List.getElem?_map, S13.upd_at d rate ws xs (by omega)]; rfl
        rw [List.getElem?_take, if_pos hk] at h5
        exact h5
      · exact h4.cell (hrx k hk) (fun e => hgx (by simpa using e)))
    (fun k W hk h => by
      obtain ⟨⟨cs', h1, h2, h3⟩, h4⟩ := h
      have hc' : xs.length ≤ cs'.length := by
        have := congrArg List.length h2
        rw [List.length_take, Ints_length, S13.upd_length d rate ws xs (by omega)] at this; omega
      refine (learnStep13_any k xs.length cap (ws.getD k 0) (xs.getD k 0) d rate bd br bw b cs' W hk h16 hc' (S13.getD_mem (P := fun x => -3071 ≤ x ∧ x ≤ 3071) hxs hk) hd hr (S13.getD_mem (P := fun x => -1048576 ≤ x ∧ x ≤ 1048576) hws (by omega))
        (kd.grown h4 (fun e => hbd (by simpa using e))) (kr.grown h4 (fun e => hbr (by simpa using e))) (kw.grown h4 (fun e => hbw (by simpa using e))) h1).mono ?_
      rintro e w' ⟨rfl, w1, hb1, rfl⟩
      refine ⟨rfl, ⟨⟨cs'.set k (.int .i64 (S13.lw d rate (ws.getD k 0) (xs.getD k 0))), (h1.step hb1).set k _, ?_, by omega⟩, (h4.trans (below_grown hb1 _)).trans (grown_setCell w1 b k _)⟩, fun b2 cs2 hb2 => ?_⟩
      · rw [List.take_set, h2, ← Ints_set13, S13.upd_succ d rate ws xs (by omega) hl]
      · refine (hb2.step hb1).other _ _ _ fun e => ?_
        subst e
        unfold Blk at hb2 h1
        rw [h1] at hb2
        simp at hb2)
    w (by omega) ⟨⟨cs, kb, by rw [S13.upd_zero]; exact hcs, by omega⟩, World.grownBy.refl _ _⟩
  refine hvis.mono ?_
  rintro e w' ⟨rfl, ⟨cs', h1, h2, _⟩, h4⟩
  refine ⟨rfl, ⟨cs', h1, ?_⟩, h4⟩
  rw [h2, ← hl, S13.upd_all]
end Go.Proofs.Ytkpkkbpfcchgaaa
