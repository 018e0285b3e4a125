/- Arguments opened: tables of slots, pairs of numbers. No condition. -/
import Derived.Test.YtgbjckjfjoiilaaW10ad
import Derived.ProofKit
import Derived.OpenShut
import Derived.Lib.SmallJoins
import Derived.Deep.Slices
import Derived.Laws.IdiomArrays
set_option linter.unusedSimpArgs false
set_option linter.unusedVariables false
set_option linter.unusedSectionVars false
namespace Go.Proofs.Ytgbjckjfjoiilaa
open Go.ChangeShapes Go.WideShapes Go.ChangeAt Go.RowKit

theorem lawOwn : ownKnob Try.prog.godebug = none := by kernel_rfl
theorem lawLaid : laidOutB Try.prog = true := by kernel_rfl
theorem cells_u8 : Try.prog.cellsOf 5 = 1 := by kernel_rfl
theorem cells_sb : Try.prog.cellsOf 24 = 1 := by kernel_rfl
theorem cells_Slots : Try.prog.cellsOf 26 = 2 := by kernel_rfl

/-- A slice of bytes, from its cell. -/
theorem open_bytesCell {H : Type} {enc : TypeId × Value → H} {W : World} {m0 : Nat} {c0 : Value} {y : DataW H × List MemPlace}
    (hf : DataW.trod enc Try.prog W 0 (fun _ => true) true m0 24 [c0] = some y) :
    ∃ (a : Option Addr) (xs : List Int) (cap : Nat), c0 = .slice a xs.length cap ∧ xs.length ≤ cap ∧ cap ≤ 9223372036854775807 ∧ Rd W a (Bts xs) ∧ ∀ x ∈ xs, (Lit.int .u8 x).wf = true := by
  rcases Go.Deep.open_slice1 Try.underlying24 cells_u8 hf with ⟨hcs, _⟩ | ⟨x, l, c, m, n, V, D, Pl, hcs, _, hl, hm, hmm, _, hx⟩
  · simp at hcs
    subst hcs
    exact ⟨none, [], 0, rfl, by simp, by omega, Rd.nil _ _, by simp⟩
  · simp at hcs
    subst hcs
    have hb : ∀ i, i < l → ∃ z : Int, V i = .int .u8 z ∧ (Lit.int .u8 z).wf = true := fun i hi => by
      obtain ⟨z, e0, _, wz⟩ := DataW.trod_int Try.underlying5 (hx i (by simp at hmm; omega)).2
      simp at e0
      exact ⟨z, e0, wz⟩
    obtain ⟨B, hB⟩ := Go.Deep.choose_lt (α := Int) (p := fun i z => V i = .int .u8 z ∧ (Lit.int .u8 z).wf = true) hb
    unfold maxLen at hm
    simp at hmm
    refine ⟨some x, (List.range l).map B, c, by simp, by simp; omega, by omega, ?_, ?_⟩
    · intro hne
      have hpos : 0 < l := by
        rcases Nat.eq_zero_or_pos l with h0 | h0
        · subst h0; simp [Bts] at hne
        · exact h0
      obtain ⟨b, o, sp⟩ := x
      have h0 := (hx 0 (by omega)).1
      have hsp : sp = none := by
        have h' : W.cell? ⟨b, o, sp⟩ = some (V 0) := by simpa [Addr.add] using h0
        exact World.cell?_spot h'
      subst hsp
      refine ⟨b, o, rfl, fun j v hv => ?_⟩
      simp only [Bts, List.map_map, List.getElem?_map] at hv
      have hj : j < l := by
        by_cases hj : j < l
        · exact hj
        · rw [List.getElem?_eq_none (by simp; omega)] at hv; simp at hv
      rw [List.getElem?_range hj] at hv
      simp at hv
      have := (hx j (by omega)).1
      rw [Addr.add_mid] at this
      rw [this, (hB j hj).1, hv]
    · intro z hz
      simp only [List.mem_map, List.mem_range] at hz
      obtain ⟨i, hi, rfl⟩ := hz
      exact (hB i hi).2

theorem wf_u8 {x : Int} (h : (Lit.int .u8 x).wf = true) : 0 ≤ x ∧ x < 256 := by
  have := bounds_u8 h; omega
theorem wf_u32 {x : Int} (h : (Lit.int .u32 x).wf = true) : 0 ≤ x ∧ x < 4294967296 := by
  have := bounds_u32 h; omega
set_option maxRecDepth 100000 in
/-- A table that came in. -/
theorem open_slots {H : Type} {enc : TypeId × Value → H} {W : World} {base : Nat} {v : Value} {d : DataW H} {p : List MemPlace} (hv : Value.okWide Try.prog W .any base 26 v)
    (h : DataW.Trod enc Try.prog W 0 (fun _ => true) true 26 v d p) :
    ∃ (bits : Int) (xs : List Int) (a : Option Addr) (cap : Nat), v = tabV bits xs a cap ∧ Tab xs a cap W := by
  obtain ⟨v0, v1, y0, y1, m0, rfl, _, _, t0, t1⟩ := Go.Joins.open_agg2 Try.underlying26 (by kernel_rfl) cells_Slots hv h
  obtain ⟨n, e0, _, _⟩ := DataW.trod_int Try.underlying3 t0
  simp at e0
  subst e0
  obtain ⟨a, xs, cap, rfl, h1, h2, h3, h4⟩ := open_bytesCell t1
  exact ⟨n, xs, a, cap, rfl, fun x hx => wf_u8 (h4 x hx), h1, h3⟩

theorem cells_pair : Try.prog.cellsOf 51 = 2 := by kernel_rfl
theorem trod_array2 {H : Type} {P : Program} {enc : TypeId × Value → H} {w : World} {base : Nat} {spare : Nat → Bool} {held : Bool} {t e : TypeId} {fuel : Nat} {c0 c1 : Value} {x : DataW H × List MemPlace} (ht : P.underlying t = some (.array 2 e)) (hce : P.cellsOf e = 1)
    (h : DataW.trod enc P w base spare held fuel t [c0, c1] = some x) :
    ∃ y0 y1 n, DataW.trod enc P w base spare held n e [c0] = some y0 ∧ DataW.trod enc P w base spare held n e [c1] = some y1 := by
  cases fuel with
  | zero => simp [DataW.trod] at h
  | succ n =>
    unfold DataW.trod at h
    rw [ht] at h
    have r2 : List.range 2 = [0, 1] := rfl
    simp [r2, hce] at h
    obtain ⟨_, h⟩ := h
    cases h0 : DataW.trod enc P w base spare held n e [c0] with
    | none => simp [h0] at h
    | some y0 =>
      cases h1 : DataW.trod enc P w base spare held n e [c1] with
      | none => simp [h0, h1] at h
      | some y1 => exact ⟨y0, y1, n, h0, h1⟩
set_option maxRecDepth 100000 in
/-- Two numbers that came in. -/
theorem open_pair {H : Type} {enc : TypeId × Value → H} {W : World} {base : Nat} {v : Value} {d : DataW H} {p : List MemPlace} (hv : Value.okWide Try.prog W .any base 51 v)
    (h : DataW.Trod enc Try.prog W 0 (fun _ => true) true 51 v d p) : ∃ x0 x1 : Int, v = .agg #[.int .i64 x0, .int .i64 x1] := by
  simp only [Value.okWide, Try.underlying51] at hv
  obtain ⟨cs, rfl, hsz, _⟩ := hv
  obtain ⟨fuel, hf⟩ := h
  obtain ⟨c0, c1, rfl⟩ : ∃ c0 c1, cs = #[c0, c1] := by
    have h1 : cs.size = 2 := by rw [hsz, cells_pair]
    obtain ⟨l⟩ := cs
    match l, h1 with
    | [c0, c1], _ => exact ⟨c0, c1, rfl⟩
  obtain ⟨y0, y1, n, t0, t1⟩ := trod_array2 (c0 := c0) (c1 := c1) Try.underlying51 (by kernel_rfl) (by simpa [Value.cells] using hf)
  obtain ⟨n0, e0, _, _⟩ := DataW.trod_int Try.underlying3 t0
  obtain ⟨n1, e1, _, _⟩ := DataW.trod_int Try.underlying3 t1
  simp at e0 e1
  subst e0 e1
  exact ⟨n0, n1, rfl⟩
end Go.Proofs.Ytgbjckjfjoiilaa
