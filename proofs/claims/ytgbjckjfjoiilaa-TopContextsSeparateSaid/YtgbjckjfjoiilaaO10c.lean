/- Arguments opened: visits. No condition. -/
import Derived.Test.YtgbjckjfjoiilaaO10
import Derived.Test.YtgbjckjfjoiilaaW10at
import Derived.Deep.Strs
set_option linter.unusedSimpArgs false
set_option linter.unusedVariables false
set_option linter.unusedSectionVars false
namespace Go.Proofs.Ytgbjckjfjoiilaa
open Go.ChangeShapes Go.WideShapes Go.ChangeAt Go.RowKit

theorem cells_Visit : Try.prog.cellsOf 34 = 3 := by kernel_rfl
theorem nat_of_u8 {x : Int} (h : (Lit.int .u8 x).wf = true) : ∃ n : Nat, x = n ∧ n < 256 := by
  have b := wf_u8 h
  obtain ⟨n, rfl⟩ := Int.eq_ofNat_of_zero_le b.1
  exact ⟨n, rfl, by omega⟩
theorem vis_trod {H : Type} {enc : TypeId × Value → H} {W : World} {fuel : Nat} {c0 c1 c2 : Value} {y : DataW H × List MemPlace} (h : DataW.trod enc Try.prog W 0 (fun _ => true) true fuel 34 [c0, c1, c2] = some y) :
    ∃ x : Vis, x.ok ∧ [c0, c1, c2] = x.cells := by
  obtain ⟨y0, y1, y2, k, _, _, t0, t1, t2⟩ := Go.Deep.trod_struct3 Try.underlying34 h
  simp only [cells_u8] at t0 t1 t2
  obtain ⟨x0, e0, _, w0⟩ := DataW.trod_int Try.underlying5 t0
  obtain ⟨x1, e1, _, w1⟩ := DataW.trod_int Try.underlying5 t1
  obtain ⟨x2, e2, _, w2⟩ := DataW.trod_int Try.underlying5 t2
  simp at e0 e1 e2
  obtain ⟨n0, rfl, b0⟩ := nat_of_u8 w0
  obtain ⟨n1, rfl, b1⟩ := nat_of_u8 w1
  obtain ⟨n2, rfl, b2⟩ := nat_of_u8 w2
  exact ⟨⟨n0, n1, n2⟩, ⟨b0, b1, b2⟩, by rw [e0, e1, e2]; rfl⟩

set_option maxRecDepth 100000 in
/-- Visits that came in. -/
theorem open_visits {H : Type} {enc : TypeId × Value → H} {W : World} {base : Nat} {v : Value} {d : DataW H} {p : List MemPlace} (hv : Value.okWide Try.prog W .any base 22 v)
    (h : DataW.Trod enc Try.prog W 0 (fun _ => true) true 22 v d p) :
    ∃ (a : Option Addr) (xs : List Vis) (cap : Nat), v = .slice a xs.length cap ∧ xs.length ≤ 9223372036854775807 ∧ Rd W a (Viss xs) ∧ ∀ x ∈ xs, x.ok := by
  obtain ⟨a0, len, cap, rfl⟩ := okWide_slice Try.underlying22 hv
  obtain ⟨fuel, hf⟩ := h
  rcases Go.Deep.open_slice Try.underlying22 hf with ⟨hcs, _⟩ | ⟨x, l, c, m, n, D, Pl, hcs, _, hl, hm, hmm, _, hx⟩
  · simp [Value.cells] at hcs
    obtain ⟨rfl, rfl, rfl⟩ := hcs
    exact ⟨none, [], 0, rfl, by simp, Rd.nil _ _, by simp⟩
  · simp [Value.cells] at hcs
    obtain ⟨rfl, rfl, rfl⟩ := hcs
    simp at hmm
    subst hmm
    rw [cells_Visit] at hx
    have hb : ∀ i, i < len → ∃ y : Vis, y.ok ∧ ∀ j, j < 3 → W.cell? (x.add (i * 3 + j)) = y.cells[j]? := fun i hi => by
      obtain ⟨cs, h1, h2⟩ := hx i (by omega)
      obtain ⟨_, hlen, hcell⟩ := World.cells?_some h1
      obtain ⟨c0, c1, c2, rfl⟩ : ∃ c0 c1 c2, cs = [c0, c1, c2] := by
        match cs, hlen with
        | [c0, c1, c2], _ => exact ⟨c0, c1, c2, rfl⟩
      obtain ⟨y, hy, e⟩ := vis_trod h2
      refine ⟨y, hy, fun j hj => ?_⟩
      rw [← e, ← hcell j hj, Go.Deep.add_add]
    have hinh : Inhabited Vis := ⟨⟨0, 0, 0⟩⟩
    obtain ⟨B, hB⟩ := Go.Deep.choose_lt (α := Vis) (p := fun i y => y.ok ∧ ∀ j, j < 3 → W.cell? (x.add (i * 3 + j)) = y.cells[j]?) hb
    unfold maxLen at hm
    refine ⟨some x, (List.range len).map B, _, by simp; rfl, by simp; omega, ?_, ?_⟩
    · intro hne
      have hpos : 0 < len := by
        rcases Nat.eq_zero_or_pos len with h0 | h0
        · subst h0; simp [Viss] at hne
        · exact h0
      obtain ⟨b, o, sp⟩ := x
      have h0 := (hB 0 hpos).2 0 (by omega)
      have hsp : sp = none := by
        have h' : W.cell? ⟨b, o, sp⟩ = some (.int .u8 ((B 0).c : Int)) := by simpa [Addr.add, Vis.cells] using h0
        exact World.cell?_spot h'
      subst hsp
      refine ⟨b, o, rfl, fun j v hv => ?_⟩
      have hjl : j < 3 * len := by
        have := (List.getElem?_eq_some_iff.1 hv).1
        rw [Viss_length] at this
        simpa using this
      have hi : j / 3 < len := by omega
      have h1 := (hB (j / 3) hi).2 (j % 3) (by omega)
      have h2 := Viss_at ((List.range len).map B) (i := j / 3) (j := j % 3) (x := B (j / 3)) (by simp [hi]) (by omega)
      rw [show 3 * (j / 3) + j % 3 = j by omega, hv] at h2
      rw [← h2, show j / 3 * 3 + j % 3 = j by omega, Addr.add_mid] at h1
      exact h1
    · intro z hz
      simp only [List.mem_map, List.mem_range] at hz
      obtain ⟨i, hi, rfl⟩ := hz
      exact (hB i hi).1

end Go.Proofs.Ytgbjckjfjoiilaa
