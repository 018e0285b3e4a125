/- Arguments opened: maps (structs of one slice of numbers). No condition. -/
import Derived.Test.YtojdbhcgppcgkaaW11f
import Derived.ProofKit
import Derived.OpenShut
import Derived.Lib.SmallJoins
import Derived.Deep.Slices
set_option linter.unusedSimpArgs false
set_option linter.unusedVariables false
set_option linter.unusedSectionVars false
namespace Go.Proofs.Ytojdbhcgppcgkaa
open Go.ChangeShapes Go.WideShapes Go.ChangeAt Go.RowKit

theorem lawOwn : ownKnob Try.prog.godebug = none := by kernel_rfl
theorem lawLaid : laidOutB Try.prog = true := by kernel_rfl
theorem cells_int : Try.prog.cellsOf 3 = 1 := by kernel_rfl
theorem cells_sl : Try.prog.cellsOf 22 = 1 := by kernel_rfl
theorem cells_Apm : Try.prog.cellsOf 24 = 1 := by kernel_rfl

/-- A slice of numbers, from its cell. -/
theorem open_intsCell {H : Type} {enc : TypeId × Value → H} {W : World} {m0 : Nat} {c0 : Value} {y : DataW H × List MemPlace}
    (hf : DataW.trod enc Try.prog W 0 (fun _ => true) true m0 22 [c0] = some y) :
    ∃ (a : Option Addr) (xs : List Int) (cap : Nat), c0 = .slice a xs.length cap ∧ xs.length ≤ cap ∧ cap ≤ 9223372036854775807 ∧ Rd W a (Ints xs) ∧ ∀ x ∈ xs, (Lit.int .i64 x).wf = true := by
  rcases Go.Deep.open_slice1 Try.underlying22 cells_int hf with ⟨hcs, _⟩ | ⟨x, l, c, m, n, V, D, Pl, hcs, _, hl, hm, hmm, _, hx⟩
  · simp at hcs
    subst hcs
    exact ⟨none, [], 0, rfl, by simp, by omega, Rd.nil _ _, by simp⟩
  · simp at hcs
    subst hcs
    have hb : ∀ i, i < l → ∃ z : Int, V i = .int .i64 z ∧ (Lit.int .i64 z).wf = true := fun i hi => by
      obtain ⟨z, e0, _, wz⟩ := DataW.trod_int Try.underlying3 (hx i (by simp at hmm; omega)).2
      simp at e0
      exact ⟨z, e0, wz⟩
    obtain ⟨B, hB⟩ := Go.Deep.choose_lt (α := Int) (p := fun i z => V i = .int .i64 z ∧ (Lit.int .i64 z).wf = true) hb
    unfold maxLen at hm
    simp at hmm
    refine ⟨some x, (List.range l).map B, c, by simp, by simp; omega, by omega, ?_, ?_⟩
    · intro hne
      have hpos : 0 < l := by
        rcases Nat.eq_zero_or_pos l with h0 | h0
        · subst h0; simp [Ints] at hne
        · exact h0
      obtain ⟨b, o, sp⟩ := x
      have h0 := (hx 0 (by omega)).1
      have hsp : sp = none := by
        have h' : W.cell? ⟨b, o, sp⟩ = some (V 0) := by simpa [Addr.add] using h0
        exact World.cell?_spot h'
      subst hsp
      refine ⟨b, o, rfl, fun j v hv => ?_⟩
      simp only [Ints, List.map_map, List.getElem?_map] at hv
      have hj : j < l := by
        by_cases hj : j < l
        · exact hj
        · rw [List.getElem?_eq_none (by simp; omega)] at hv; simp at hv
      rw [List.getElem?_range hj] at hv
      simp at hv
      have := (hx j (by omega)).1
      rw [Addr.add_mid] at this
      rw [this, (hB j hj).1, hv]
    · intro z hz
      simp only [List.mem_map, List.mem_range] at hz
      obtain ⟨i, hi, rfl⟩ := hz
      exact (hB i hi).2

/-- A map that came in. -/
theorem open_apm {H : Type} {enc : TypeId × Value → H} {W : World} {base : Nat} {v : Value} {d : DataW H} {p : List MemPlace} (hv : Value.okWide Try.prog W .any base 24 v)
    (h : DataW.Trod enc Try.prog W 0 (fun _ => true) true 24 v d p) :
    ∃ xs : List Int, MapIs xs v W ∧ ∀ x ∈ xs, (Lit.int .i64 x).wf = true := by
  obtain ⟨cs, rfl, hsz⟩ := okWide_struct Try.underlying24 hv
  obtain ⟨c0, rfl⟩ : ∃ c0, cs = #[c0] := by
    have h1 := hsz.trans cells_Apm
    obtain ⟨l⟩ := cs
    match l, h1 with
    | [c0], _ => exact ⟨c0, rfl⟩
  obtain ⟨fuel, hf⟩ := h
  obtain ⟨y0, n, hx, _, h0⟩ := Go.ChangeShapes.trod_struct1 Try.underlying24 hf
  have h0' : DataW.trod enc Try.prog W 0 (fun _ => true) true n 22 [c0] = some y0 := by simpa [Value.cells, cells_sl] using h0
  obtain ⟨a, xs, cap, rfl, h1, h2, h3, h4⟩ := open_intsCell h0'
  exact ⟨xs, ⟨a, cap, rfl, h1, h2, h3⟩, h4⟩
end Go.Proofs.Ytojdbhcgppcgkaa
