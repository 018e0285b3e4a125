/- Check (layer 13). No condition. -/
import Derived.Test.YtkpkkbpfcchgaaaW13b
set_option linter.unusedSimpArgs false
set_option linter.unusedVariables false
set_option linter.unusedSectionVars false
namespace Go.Proofs.Ytkpkkbpfcchgaaa
open Go.RowKit

theorem S13.rows_snoc (n : Int) (L : List (List Int)) (l : List Int) (h : S13.rows n L = 0) : S13.rows n (L ++ [l]) = if (l.length : Int) ≠ n then 6 else if l.any S13.heavy then 2 else 0 := by
  have := S13.rows_take n (L ++ [l]) L.length (by rw [List.take_left]; exact h)
  rw [this, List.drop_left]
  rfl
theorem S13.rows_at (n : Int) {L : List (List Int)} {k : Nat} {l : List Int} (hk : L[k]? = some l) (h : S13.rows n (L.take k) = 0) :
    S13.rows n (L.take (k + 1)) = (if (l.length : Int) ≠ n then 6 else if l.any S13.heavy then 2 else 0) ∧ (S13.rows n (L.take (k + 1)) ≠ 0 → S13.rows n L = S13.rows n (L.take (k + 1))) := by
  have e : L.take (k + 1) = L.take k ++ [l] := by rw [List.take_add_one, hk]; rfl
  have h1 := S13.rows_snoc n (L.take k) l h
  rw [e, h1]
  refine ⟨rfl, fun hne => ?_⟩
  have h2 := S13.rows_take n L k h
  have e2 : L.drop k = l :: L.drop (k + 1) := by
    obtain ⟨hk1, hk2⟩ := List.getElem?_eq_some_iff.1 hk
    rw [← hk2]; exact List.drop_eq_getElem_cons hk1
  rw [h2, e2, S13.rows]
  split
  · rfl
  · rename_i h3
    rw [if_neg h3] at hne
    split
    · rfl
    · rename_i h4
      rw [if_neg h4] at hne
      exact absurd rfl hne
end Go.Proofs.Ytkpkkbpfcchgaaa
