/- Arguments opened: bytes (layer 33). No condition. -/
import Derived.Test.YtalidjgniebohaaW17j
import Derived.ProofKit
import Derived.OpenShut
import Derived.Lib.SmallJoins
import Derived.Deep.Slices
import Derived.Laws.IdiomArrays
set_option linter.unusedSimpArgs false
set_option linter.unusedVariables false
set_option linter.unusedSectionVars false
namespace Go.Proofs.Ytalidjgniebohaa
open Go.ChangeShapes Go.WideShapes Go.ChangeAt Go.RowKit

theorem lawOwn : ownKnob Try.prog.godebug = none := by kernel_rfl
theorem lawLaid : laidOutB Try.prog = true := by kernel_rfl
theorem cells_u8 : Try.prog.cellsOf 5 = 1 := by kernel_rfl
theorem wf_u8 {x : Int} (h : (Lit.int .u8 x).wf = true) : 0 ≤ x ∧ x < 256 := by
  have := bounds_u8 h; omega
theorem nat_of_u8 {x : Int} (h : (Lit.int .u8 x).wf = true) : ∃ n : Nat, x = n ∧ n < 256 := by
  have b := wf_u8 h
  obtain ⟨n, rfl⟩ := Int.eq_ofNat_of_zero_le b.1
  exact ⟨n, rfl, by omega⟩

/-- A slice of bytes, from its cell. -/
theorem open_bytesCell {H : Type} {enc : TypeId × Value → H} {W : World} {m0 : Nat} {c0 : Value} {y : DataW H × List MemPlace}
    (hf : DataW.trod enc Try.prog W 0 (fun _ => true) true m0 22 [c0] = some y) :
    ∃ (a : Option Addr) (xs : List Int) (cap : Nat), c0 = .slice a xs.length cap ∧ xs.length ≤ cap ∧ cap ≤ 9223372036854775807 ∧ Rd W a (Bts xs) ∧ (∀ x ∈ xs, 0 ≤ x ∧ x < 256) := by
  rcases Go.Deep.open_slice1 Try.underlying22 cells_u8 hf with ⟨hcs, _⟩ | ⟨x, l, c, m, n, V, D, Pl, hcs, _, hl, hm, hmm, _, hx⟩
  · simp at hcs
    subst hcs
    exact ⟨none, [], 0, rfl, by simp, by omega, Rd.nil _ _, fun _ h => absurd h List.not_mem_nil⟩
  · simp at hcs
    subst hcs
    have hb : ∀ i, i < l → ∃ z : Int, V i = .int .u8 z ∧ (Lit.int .u8 z).wf = true := fun i hi => by
      obtain ⟨z, e0, _, wz⟩ := DataW.trod_int Try.underlying5 (hx i (by simp at hmm; omega)).2
      simp at e0
      exact ⟨z, e0, wz⟩
    obtain ⟨B, hB⟩ := Go.Deep.choose_lt (α := Int) (p := fun i z => V i = .int .u8 z ∧ (Lit.int .u8 z).wf = true) hb
    unfold maxLen at hm
    simp at hmm
    refine ⟨some x, (List.range l).map B, c, by simp, by simp; omega, by omega, ?_, ?_⟩
    · intro hne
      have hpos : 0 < l := by
        rcases Nat.eq_zero_or_pos l with h0 | h0
        · subst h0; simp [Bts] at hne
        · exact h0
      obtain ⟨b, o, sp⟩ := x
      have h0 := (hx 0 (by omega)).1
      have hsp : sp = none := by
        have h' : W.cell? ⟨b, o, sp⟩ = some (V 0) := by simpa [Addr.add] using h0
        exact World.cell?_spot h'
      subst hsp
      refine ⟨b, o, rfl, fun j v hv => ?_⟩
      simp only [Bts, List.map_map, List.getElem?_map] at hv
      have hj : j < l := by
        by_cases hj : j < l
        · exact hj
        · rw [List.getElem?_eq_none (by simp; omega)] at hv; simp at hv
      rw [List.getElem?_range hj] at hv
      simp at hv
      have := (hx j (by omega)).1
      rw [Addr.add_mid] at this
      rw [this, (hB j hj).1, hv]
    · intro z hz
      simp only [List.mem_map, List.mem_range] at hz
      obtain ⟨i, hi, rfl⟩ := hz
      exact wf_u8 (hB i hi).2
set_option maxRecDepth 100000 in
/-- Bytes that came in. -/
theorem open_bytes {H : Type} {enc : TypeId × Value → H} {W : World} {base : Nat} {v : Value} {d : DataW H} {p : List MemPlace} (hv : Value.okWide Try.prog W .any base 22 v)
    (h : DataW.Trod enc Try.prog W 0 (fun _ => true) true 22 v d p) :
    ∃ (a : Option Addr) (xs : List Int) (cap : Nat), v = .slice a xs.length cap ∧ xs.length ≤ cap ∧ xs.length ≤ 9223372036854775807 ∧ Rd W a (Bts xs) ∧ (∀ x ∈ xs, 0 ≤ x ∧ x < 256) := by
  obtain ⟨a0, len, cap, rfl⟩ := okWide_slice Try.underlying22 hv
  obtain ⟨fuel, hf⟩ := h
  obtain ⟨a, xs, cap, e, h1, h2, h3, h4⟩ := open_bytesCell (c0 := .slice a0 len cap) (by simpa [Value.cells] using hf)
  exact ⟨a, xs, cap, e, h1, Nat.le_trans h1 h2, h3, h4⟩
end Go.Proofs.Ytalidjgniebohaa
