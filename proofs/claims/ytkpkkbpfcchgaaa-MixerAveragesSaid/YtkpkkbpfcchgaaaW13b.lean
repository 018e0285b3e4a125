/- Mixers as values, and Check (layer 13). No condition. -/
import Derived.Test.YtkpkkbpfcchgaaaW13a
set_option linter.unusedSimpArgs false
set_option linter.unusedVariables false
set_option linter.unusedSectionVars false
namespace Go.Proofs.Ytkpkkbpfcchgaaa
open Go.RowKit

/-- A set of weights, as a slice. -/
structure Row13 where
  a : Option Addr
  cap : Nat
  l : List Int
def Row13.head (r : Row13) : Value := .slice r.a r.l.length r.cap
def Row13.ok (w : World) (r : Row13) : Prop := r.l.length ≤ r.cap ∧ r.cap ≤ 9223372036854775807 ∧ Rd w r.a (Ints r.l)
theorem Row13.ok.step {w w' : World} {r : Row13} (h : r.ok w) (hb : Below w.heap.size w w') : r.ok w' := ⟨h.1, h.2.1, h.2.2.step hb⟩
/-- A mixer of n inputs with the sets L. -/
def MixIs (n : Int) (L : List (List Int)) (V : Value) (w : World) : Prop :=
  ∃ (R : List Row13) (a : Option Addr) (cap : Nat), L = R.map Row13.l ∧ V = .agg #[.int .i64 n, .slice a R.length cap] ∧ R.length ≤ cap ∧ cap ≤ 9223372036854775807 ∧ Rd w a (R.map Row13.head) ∧ ∀ r ∈ R, r.ok w
theorem MixIs.step {n : Int} {L : List (List Int)} {V : Value} {w w' : World} (h : MixIs n L V w) (hb : Below w.heap.size w w') : MixIs n L V w' := by
  obtain ⟨R, a, cap, h1, h2, h3, h4, h5, h6⟩ := h
  exact ⟨R, a, cap, h1, h2, h3, h4, h5.step hb, fun r hr => (h6 r hr).step hb⟩
theorem S13.rows_take (n : Int) : ∀ (L : List (List Int)) (k : Nat), S13.rows n (L.take k) = 0 → S13.rows n L = S13.rows n (L.drop k)
  | _, 0, _ => by simp
  | [], k + 1, _ => by simp
  | l :: r, k + 1, h => by
    simp only [List.take_succ_cons, S13.rows] at h
    simp only [List.drop_succ_cons]
    split at h
    · simp at h
    · rename_i h1
      split at h
      · simp at h
      · rename_i h2
        rw [S13.rows, if_neg h1, if_neg h2]
        exact S13.rows_take n r k h
end Go.Proofs.Ytkpkkbpfcchgaaa
