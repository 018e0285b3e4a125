/- Arguments opened: slices of bools, integers. No condition. -/
import Derived.Test.YtaolpmedlconoaaW09k
import Derived.ProofKit
import Derived.OpenShut
import Derived.Lib.SmallJoins
import Derived.Deep.Slices
set_option linter.unusedSimpArgs false
set_option linter.unusedVariables false
set_option linter.unusedSectionVars false
namespace Go.Proofs.Ytaolpmedlconoaa
open Go.ChangeShapes Go.WideShapes Go.ChangeAt Go.RowKit

theorem lawOwn : ownKnob Try.prog.godebug = none := by kernel_rfl
theorem lawLaid : laidOutB Try.prog = true := by kernel_rfl
theorem cells_bool : Try.prog.cellsOf 4 = 1 := by kernel_rfl

/-- A slice of bools that came in. -/
theorem open_bools {H : Type} {enc : TypeId × Value → H} {W : World} {base : Nat} {v : Value} {d : DataW H} {p : List MemPlace} (hv : Value.okWide Try.prog W .any base 29 v)
    (h : DataW.Trod enc Try.prog W 0 (fun _ => true) true 29 v d p) :
    ∃ (a : Option Addr) (bs : List Bool) (cap : Nat), v = .slice a bs.length cap ∧ bs.length ≤ 9223372036854775807 ∧ Rd W a (Bools bs) := by
  obtain ⟨a0, len, cap, rfl⟩ := okWide_slice Try.underlying29 hv
  obtain ⟨fuel, hf⟩ := h
  rcases Go.Deep.open_slice1 Try.underlying29 cells_bool hf with ⟨hcs, _⟩ | ⟨x, l, c, m, n, V, D, Pl, hcs, _, hl, hm, hmm, _, hx⟩
  · simp [Value.cells] at hcs
    obtain ⟨rfl, rfl, rfl⟩ := hcs
    exact ⟨none, [], 0, rfl, by simp, Rd.nil _ _⟩
  · simp [Value.cells] at hcs
    obtain ⟨rfl, rfl, rfl⟩ := hcs
    simp at hmm
    subst hmm
    have hb : ∀ i, i < len → ∃ b : Bool, V i = .bool b := fun i hi => by
      obtain ⟨b, e0, _⟩ := DataW.trod_bool Try.underlying4 (hx i (by omega)).2
      simp at e0
      exact ⟨b, e0⟩
    obtain ⟨B, hB⟩ := Go.Deep.choose_lt (α := Bool) (p := fun i b => V i = .bool b) hb
    unfold maxLen at hm
    refine ⟨some x, (List.range len).map B, _, by simp; rfl, by simp; omega, ?_⟩
    intro hne
    have hpos : 0 < len := by
      rcases Nat.eq_zero_or_pos len with h0 | h0
      · subst h0; simp [Bools] at hne
      · exact h0
    obtain ⟨b, o, sp⟩ := x
    have h0 := (hx 0 (by omega)).1
    have hsp : sp = none := by
      have h' : W.cell? ⟨b, o, sp⟩ = some (V 0) := by simpa [Addr.add] using h0
      exact World.cell?_spot h'
    subst hsp
    refine ⟨b, o, rfl, fun j v hv => ?_⟩
    simp only [Bools, List.map_map, List.getElem?_map] at hv
    have hj : j < len := by
      by_cases hj : j < len
      · exact hj
      · rw [List.getElem?_eq_none (by simp; omega)] at hv; simp at hv
    rw [List.getElem?_range hj] at hv
    simp at hv
    have := (hx j (by omega)).1
    rw [Addr.add_mid] at this
    rw [this, hB j hj, hv]

end Go.Proofs.Ytaolpmedlconoaa
