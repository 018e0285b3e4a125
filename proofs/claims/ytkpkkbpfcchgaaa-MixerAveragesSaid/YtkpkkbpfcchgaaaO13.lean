/- Arguments opened: mixers (layer 13). No condition. -/
import Derived.Test.YtkpkkbpfcchgaaaW13v
import Derived.ProofKit
import Derived.OpenShut
import Derived.Lib.SmallJoins
import Derived.Deep.Slices
set_option linter.unusedSimpArgs false
set_option linter.unusedVariables false
set_option linter.unusedSectionVars false
namespace Go.Proofs.Ytkpkkbpfcchgaaa
open Go.ChangeShapes Go.WideShapes Go.ChangeAt Go.RowKit

theorem lawOwn : ownKnob Try.prog.godebug = none := by kernel_rfl
theorem lawLaid : laidOutB Try.prog = true := by kernel_rfl
theorem cells_int : Try.prog.cellsOf 3 = 1 := by kernel_rfl
theorem cells_sl : Try.prog.cellsOf 36 = 1 := by kernel_rfl
theorem cells_Mixer : Try.prog.cellsOf 24 = 2 := by kernel_rfl

/-- A slice of numbers, from its cell. -/
theorem open_intsCell {H : Type} {enc : TypeId × Value → H} {W : World} {m0 : Nat} {c0 : Value} {y : DataW H × List MemPlace}
    (hf : DataW.trod enc Try.prog W 0 (fun _ => true) true m0 36 [c0] = some y) :
    ∃ (a : Option Addr) (xs : List Int) (cap : Nat), c0 = .slice a xs.length cap ∧ xs.length ≤ cap ∧ cap ≤ 9223372036854775807 ∧ Rd W a (Ints xs) ∧ ∀ x ∈ xs, (Lit.int .i64 x).wf = true := by
  rcases Go.Deep.open_slice1 Try.underlying36 cells_int hf with ⟨hcs, _⟩ | ⟨x, l, c, m, n, V, D, Pl, hcs, _, hl, hm, hmm, _, hx⟩
  · simp at hcs
    subst hcs
    exact ⟨none, [], 0, rfl, by simp, by omega, Rd.nil _ _, by simp⟩
  · simp at hcs
    subst hcs
    have hb : ∀ i, i < l → ∃ z : Int, V i = .int .i64 z ∧ (Lit.int .i64 z).wf = true := fun i hi => by
      obtain ⟨z, e0, _, wz⟩ := DataW.trod_int Try.underlying3 (hx i (by simp at hmm; omega)).2
      simp at e0
      exact ⟨z, e0, wz⟩
    obtain ⟨B, hB⟩ := Go.Deep.choose_lt (α := Int) (p := fun i z => V i = .int .i64 z ∧ (Lit.int .i64 z).wf = true) hb
    unfold maxLen at hm
    simp at hmm
    refine ⟨some x, (List.range l).map B, c, by simp, by simp; omega, by omega, ?_, ?_⟩
    · intro hne
      have hpos : 0 < l := by
        rcases Nat.eq_zero_or_pos l with h0 | h0
        · subst h0; simp [Ints] at hne
        · exact h0
      obtain ⟨b, o, sp⟩ := x
      have h0 := (hx 0 (by omega)).1
      have hsp : sp = none := by
        have h' : W.cell? ⟨b, o, sp⟩ = some (V 0) := by simpa [Addr.add] using h0
        exact World.cell?_spot h'
      subst hsp
      refine ⟨b, o, rfl, fun j v hv => ?_⟩
      simp only [Ints, List.map_map, List.getElem?_map] at hv
      have hj : j < l := by
        by_cases hj : j < l
        · exact hj
        · rw [List.getElem?_eq_none (by simp; omega)] at hv; simp at hv
      rw [List.getElem?_range hj] at hv
      simp at hv
      have := (hx j (by omega)).1
      rw [Addr.add_mid] at this
      rw [this, (hB j hj).1, hv]
    · intro z hz
      simp only [List.mem_map, List.mem_range] at hz
      obtain ⟨i, hi, rfl⟩ := hz
      exact (hB i hi).2


instance : Inhabited Row13 := ⟨⟨none, 0, []⟩⟩
/-- A mixer that came in. -/
theorem open_mixer {H : Type} {enc : TypeId × Value → H} {W : World} {base : Nat} {v : Value} {d : DataW H} {p : List MemPlace} (hv : Value.okWide Try.prog W .any base 24 v)
    (h : DataW.Trod enc Try.prog W 0 (fun _ => true) true 24 v d p) :
    ∃ (n : Int) (L : List (List Int)), MixIs n L v W := by
  obtain ⟨v0, v1, y0, y1, m0, rfl, _, _, t0, t1⟩ := Go.Joins.open_agg2 Try.underlying24 (by kernel_rfl) cells_Mixer hv h
  obtain ⟨n, e0, _, _⟩ := DataW.trod_int Try.underlying3 t0
  simp at e0
  subst e0
  refine ⟨n, ?_⟩
  rcases Go.Deep.open_slice1 Try.underlying22 cells_sl t1 with ⟨hcs, _⟩ | ⟨x, l, c, m, k, V, D, Pl, hcs, _, hl, hm, hmm, _, hx⟩
  · simp at hcs
    subst hcs
    exact ⟨[], [], none, 0, rfl, rfl, by simp, by omega, Rd.nil _ _, by simp⟩
  · simp at hcs
    subst hcs
    simp at hmm
    subst hmm
    have hb : ∀ i, i < l → ∃ r : Row13, V i = r.head ∧ r.ok W := fun i hi => by
      obtain ⟨a, xs, cap, e, h1, h2, h3, _⟩ := open_intsCell (hx i (by omega)).2
      exact ⟨⟨a, cap, xs⟩, e, h1, h2, h3⟩
    obtain ⟨B, hB⟩ := Go.Deep.choose_lt (α := Row13) (p := fun i r => V i = r.head ∧ r.ok W) hb
    unfold maxLen at hm
    refine ⟨((List.range l).map B).map Row13.l, (List.range l).map B, some x, _, rfl, by simp; rfl, by simp; omega, by omega, ?_, ?_⟩
    · intro hne
      have hpos : 0 < l := by
        rcases Nat.eq_zero_or_pos l with h0 | h0
        · subst h0; simp at hne
        · exact h0
      obtain ⟨b, o, sp⟩ := x
      have h0 := (hx 0 (by omega)).1
      have hsp : sp = none := by
        have h' : W.cell? ⟨b, o, sp⟩ = some (V 0) := by simpa [Addr.add] using h0
        exact World.cell?_spot h'
      subst hsp
      refine ⟨b, o, rfl, fun j v hv => ?_⟩
      simp only [List.map_map, List.getElem?_map] at hv
      have hj : j < l := by
        by_cases hj : j < l
        · exact hj
        · rw [List.getElem?_eq_none (by simp; omega)] at hv; simp at hv
      rw [List.getElem?_range hj] at hv
      simp at hv
      have := (hx j (by omega)).1
      rw [Addr.add_mid] at this
      rw [this, (hB j hj).1, hv]
    · intro r hr
      simp only [List.mem_map, List.mem_range] at hr
      obtain ⟨i, hi, rfl⟩ := hr
      exact (hB i hi).2

/-- A slice of numbers that came in. -/
theorem open_ints {H : Type} {enc : TypeId × Value → H} {W : World} {base : Nat} {v : Value} {d : DataW H} {p : List MemPlace} (hv : Value.okWide Try.prog W .any base 36 v)
    (h : DataW.Trod enc Try.prog W 0 (fun _ => true) true 36 v d p) :
    ∃ (a : Option Addr) (xs : List Int) (cap : Nat), v = .slice a xs.length cap ∧ xs.length ≤ 9223372036854775807 ∧ Rd W a (Ints xs) := by
  obtain ⟨a0, len, cap, rfl⟩ := okWide_slice Try.underlying36 hv
  obtain ⟨fuel, hf⟩ := h
  obtain ⟨a, xs, cap, e, h1, h2, h3, _⟩ := open_intsCell (c0 := .slice a0 len cap) (by simpa [Value.cells] using hf)
  exact ⟨a, xs, cap, e, by omega, h3⟩
end Go.Proofs.Ytkpkkbpfcchgaaa
