/- Arguments opened: lessons of law 11. No condition. -/
import Derived.Test.YtojdbhcgppcgkaaSpec11c
import Derived.Test.YtojdbhcgppcgkaaO11
set_option linter.unusedSimpArgs false
set_option linter.unusedVariables false
set_option linter.unusedSectionVars false
namespace Go.Proofs.Ytojdbhcgppcgkaa
open Go.ChangeShapes Go.WideShapes Go.ChangeAt Go.RowKit

instance : Inhabited Lsn := ⟨⟨0, 0, 0, false⟩⟩
theorem cells_Lsn : Try.prog.cellsOf 53 = 4 := by kernel_rfl

/-- The four cells of a lesson. -/
theorem lsn_cells {H : Type} {enc : TypeId × Value → H} {W : World} {m : Nat} {c0 c1 c2 c3 : Value} {y0 y1 y2 y3 : DataW H × List MemPlace}
    (h0 : DataW.trod enc Try.prog W 0 (fun _ => true) true m 5 [c0] = some y0) (h1 : DataW.trod enc Try.prog W 0 (fun _ => true) true m 5 [c1] = some y1)
    (h2 : DataW.trod enc Try.prog W 0 (fun _ => true) true m 46 [c2] = some y2) (h3 : DataW.trod enc Try.prog W 0 (fun _ => true) true m 4 [c3] = some y3) :
    ∃ x : Lsn, x.ok ∧ [c0, c1, c2, c3] = x.cells := by
  obtain ⟨x0, e0, _, w0⟩ := DataW.trod_int Try.underlying5 h0
  obtain ⟨x1, e1, _, w1⟩ := DataW.trod_int Try.underlying5 h1
  obtain ⟨x2, e2, _, w2⟩ := DataW.trod_int Try.underlying46 h2
  obtain ⟨x3, e3, _⟩ := DataW.trod_bool Try.underlying4 h3
  simp at e0 e1 e2 e3
  subst e0 e1 e2 e3
  have b0 := bounds_u8 w0
  have b1 := bounds_u8 w1
  have b2 := bounds_u16 w2
  exact ⟨⟨x0, x1, x2, x3⟩, ⟨b0.1, b0.2, b1.1, b1.2, b2.1, b2.2⟩, rfl⟩

/-- A lesson that came in. -/
theorem open_lsn {H : Type} {enc : TypeId × Value → H} {W : World} {base : Nat} {v : Value} {d : DataW H} {p : List MemPlace} (hv : Value.okWide Try.prog W .any base 53 v)
    (h : DataW.Trod enc Try.prog W 0 (fun _ => true) true 53 v d p) : ∃ x : Lsn, x.ok ∧ v = .agg x.cells.toArray := by
  obtain ⟨c0, c1, c2, c3, y0, y1, y2, y3, m, rfl, _, _, hy0, hy1, hy2, hy3⟩ := Go.Joins.open_agg4 Try.underlying53 (by kernel_rfl) cells_Lsn hv h
  obtain ⟨x, hx, e⟩ := lsn_cells hy0 hy1 hy2 hy3
  exact ⟨x, hx, by rw [← e]⟩

/-- Lessons that came in. -/
theorem open_lsns {H : Type} {enc : TypeId × Value → H} {W : World} {base : Nat} {v : Value} {d : DataW H} {p : List MemPlace} (hv : Value.okWide Try.prog W .any base 51 v)
    (h : DataW.Trod enc Try.prog W 0 (fun _ => true) true 51 v d p) :
    ∃ (a : Option Addr) (xs : List Lsn) (cap : Nat), v = .slice a xs.length cap ∧ xs.length ≤ 9223372036854775807 ∧ Rd W a (Lsns xs) ∧ ∀ x ∈ xs, x.ok := by
  obtain ⟨a0, len, cap, rfl⟩ := okWide_slice Try.underlying51 hv
  obtain ⟨fuel, hf⟩ := h
  rcases Go.Deep.open_slice Try.underlying51 hf with ⟨hcs, _⟩ | ⟨x, l, c, m, n, D, Pl, hcs, _, hl, hm, hmm, _, hx⟩
  · simp [Value.cells] at hcs
    obtain ⟨rfl, rfl, rfl⟩ := hcs
    exact ⟨none, [], 0, rfl, by simp, Rd.nil _ _, by simp⟩
  · simp [Value.cells] at hcs
    obtain ⟨rfl, rfl, rfl⟩ := hcs
    simp at hmm
    subst hmm
    rw [cells_Lsn] at hx
    have hb : ∀ i, i < len → ∃ y : Lsn, y.ok ∧ ∀ j, j < 4 → W.cell? (x.add (i * 4 + j)) = y.cells[j]? := fun i hi => by
      obtain ⟨cs, h1, h2⟩ := hx i (by omega)
      obtain ⟨_, hlen, hcell⟩ := World.cells?_some h1
      obtain ⟨c0, c1, c2, c3, rfl⟩ : ∃ c0 c1 c2 c3, cs = [c0, c1, c2, c3] := by
        match cs, hlen with
        | [c0, c1, c2, c3], _ => exact ⟨c0, c1, c2, c3, rfl⟩
      obtain ⟨y0, y1, y2, y3, k, _, _, t0, t1, t2, t3⟩ := Go.Joins.trod_struct4 Try.underlying53 h2
      have q8 : Try.prog.cellsOf 5 = 1 := by kernel_rfl
      have q16 : Try.prog.cellsOf 46 = 1 := by kernel_rfl
      have qb : Try.prog.cellsOf 4 = 1 := by kernel_rfl
      simp only [q8, q16, qb] at t0 t1 t2 t3
      obtain ⟨y, hy, e⟩ := lsn_cells (c0 := c0) (c1 := c1) (c2 := c2) (c3 := c3) (by simpa using t0) (by simpa using t1) (by simpa using t2) (by simpa using t3)
      refine ⟨y, hy, fun j hj => ?_⟩
      rw [← e, ← hcell j hj, Go.Deep.add_add]
    obtain ⟨B, hB⟩ := Go.Deep.choose_lt (α := Lsn) (p := fun i y => y.ok ∧ ∀ j, j < 4 → W.cell? (x.add (i * 4 + j)) = y.cells[j]?) hb
    unfold maxLen at hm
    refine ⟨some x, (List.range len).map B, _, by simp; rfl, by simp; omega, ?_, ?_⟩
    · intro hne
      have hpos : 0 < len := by
        rcases Nat.eq_zero_or_pos len with h0 | h0
        · subst h0; simp [Lsns] at hne
        · exact h0
      obtain ⟨b, o, sp⟩ := x
      have h0 := (hB 0 hpos).2 0 (by omega)
      have hsp : sp = none := by
        have h' : W.cell? ⟨b, o, sp⟩ = some (.int .u8 (B 0).ctx) := by simpa [Addr.add, Lsn.cells] using h0
        exact World.cell?_spot h'
      subst hsp
      refine ⟨b, o, rfl, fun j v hv => ?_⟩
      have hjl : j < 4 * len := by
        have := (List.getElem?_eq_some_iff.1 hv).1
        rw [Lsns_length] at this
        simpa using this
      have hi : j / 4 < len := by omega
      have h1 := (hB (j / 4) hi).2 (j % 4) (by omega)
      have h2 := Lsns_at ((List.range len).map B) (i := j / 4) (j := j % 4) (x := B (j / 4)) (by simp [hi]) (by omega)
      rw [show 4 * (j / 4) + j % 4 = j by omega, hv] at h2
      rw [← h2, show j / 4 * 4 + j % 4 = j by omega, Addr.add_mid] at h1
      exact h1
    · intro z hz
      simp only [List.mem_map, List.mem_range] at hz
      obtain ⟨i, hi, rfl⟩ := hz
      exact (hB i hi).1
end Go.Proofs.Ytojdbhcgppcgkaa
