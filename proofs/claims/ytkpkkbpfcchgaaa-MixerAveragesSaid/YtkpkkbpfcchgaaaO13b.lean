/- Arguments opened: lessons of law 13. No condition. -/
import Derived.Test.YtkpkkbpfcchgaaaW13y
import Derived.Test.YtkpkkbpfcchgaaaO13
import Derived.Laws.IdiomArrays
set_option linter.unusedSimpArgs false
set_option linter.unusedVariables false
set_option linter.unusedSectionVars false
namespace Go.Proofs.Ytkpkkbpfcchgaaa
open Go.ChangeShapes Go.WideShapes Go.ChangeAt Go.RowKit

instance : Inhabited Lsn := ⟨⟨0, 0, false, 0, 0, 0⟩⟩
theorem cells_Lsn : Try.prog.cellsOf 50 = 6 := by kernel_rfl
theorem cells_i16 : Try.prog.cellsOf 47 = 1 := by kernel_rfl

/-- Three small numbers. -/
theorem open_three {H : Type} {enc : TypeId × Value → H} {W : World} {m : Nat} {c0 c1 c2 : Value} {y : DataW H × List MemPlace} (h : DataW.trod enc Try.prog W 0 (fun _ => true) true m 48 [c0, c1, c2] = some y) :
    ∃ x0 x1 x2 : Int, [c0, c1, c2] = [.int .i16 x0, .int .i16 x1, .int .i16 x2] ∧ -32768 ≤ x0 ∧ x0 ≤ 32767 ∧ -32768 ≤ x1 ∧ x1 ≤ 32767 ∧ -32768 ≤ x2 ∧ x2 ≤ 32767 := by
  obtain ⟨y0, y1, y2, n, _, t0, t1, t2⟩ := trod_array3 Try.underlying48 cells_i16 h
  obtain ⟨x0, e0, _, w0⟩ := DataW.trod_int Try.underlying47 t0
  obtain ⟨x1, e1, _, w1⟩ := DataW.trod_int Try.underlying47 t1
  obtain ⟨x2, e2, _, w2⟩ := DataW.trod_int Try.underlying47 t2
  simp at e0 e1 e2
  subst e0 e1 e2
  have b0 := bounds_i16 w0
  have b1 := bounds_i16 w1
  have b2 := bounds_i16 w2
  exact ⟨x0, x1, x2, rfl, b0.1, b0.2, b1.1, b1.2, b2.1, b2.2⟩
/-- The six cells of a lesson. -/
theorem lsn_cells {H : Type} {enc : TypeId × Value → H} {W : World} {m : Nat} {c0 c1 c2 c3 c4 c5 : Value} {y0 y1 y2 y3 : DataW H × List MemPlace}
    (h0 : DataW.trod enc Try.prog W 0 (fun _ => true) true m 5 [c0] = some y0) (h1 : DataW.trod enc Try.prog W 0 (fun _ => true) true m 5 [c1] = some y1)
    (h2 : DataW.trod enc Try.prog W 0 (fun _ => true) true m 4 [c2] = some y2) (h3 : DataW.trod enc Try.prog W 0 (fun _ => true) true m 48 [c3, c4, c5] = some y3) :
    ∃ x : Lsn, x.ok ∧ [c0, c1, c2, c3, c4, c5] = x.cells := by
  obtain ⟨x0, e0, _, w0⟩ := DataW.trod_int Try.underlying5 h0
  obtain ⟨x1, e1, _, w1⟩ := DataW.trod_int Try.underlying5 h1
  obtain ⟨x2, e2, _⟩ := DataW.trod_bool Try.underlying4 h2
  obtain ⟨z0, z1, z2, e3, b⟩ := open_three h3
  simp at e0 e1 e2 e3
  obtain ⟨rfl, rfl, rfl⟩ := e3
  subst e0 e1 e2
  have b0 := bounds_u8 w0
  have b1 := bounds_u8 w1
  exact ⟨⟨x0, x1, x2, z0, z1, z2⟩, ⟨b0.1, b0.2, b1.1, b1.2, b⟩, rfl⟩
theorem q8 : Try.prog.cellsOf 5 = 1 := by kernel_rfl
theorem qb : Try.prog.cellsOf 4 = 1 := by kernel_rfl
theorem q3 : Try.prog.cellsOf 48 = 3 := by kernel_rfl
theorem lsn_trod {H : Type} {enc : TypeId × Value → H} {W : World} {fuel : Nat} {c0 c1 c2 c3 c4 c5 : Value} {y : DataW H × List MemPlace} (h : DataW.trod enc Try.prog W 0 (fun _ => true) true fuel 50 [c0, c1, c2, c3, c4, c5] = some y) :
    ∃ x : Lsn, x.ok ∧ [c0, c1, c2, c3, c4, c5] = x.cells := by
  obtain ⟨y0, y1, y2, y3, k, _, _, t0, t1, t2, t3⟩ := Go.Joins.trod_struct4 Try.underlying50 h
  simp only [q8, qb, q3] at t0 t1 t2 t3
  exact lsn_cells (c0 := c0) (c1 := c1) (c2 := c2) (c3 := c3) (c4 := c4) (c5 := c5) (by simpa using t0) (by simpa using t1) (by simpa using t2) (by simpa using t3)

/-- A lesson that came in. -/
theorem open_lsn {H : Type} {enc : TypeId × Value → H} {W : World} {base : Nat} {v : Value} {d : DataW H} {p : List MemPlace} (hv : Value.okWide Try.prog W .any base 50 v)
    (h : DataW.Trod enc Try.prog W 0 (fun _ => true) true 50 v d p) : ∃ x : Lsn, x.ok ∧ v = x.val := by
  obtain ⟨cs, rfl, hsz⟩ := okWide_struct Try.underlying50 hv
  obtain ⟨c0, c1, c2, c3, c4, c5, rfl⟩ : ∃ c0 c1 c2 c3 c4 c5, cs = #[c0, c1, c2, c3, c4, c5] := by
    have h1 := hsz.trans cells_Lsn
    obtain ⟨l⟩ := cs
    match l, h1 with
    | [c0, c1, c2, c3, c4, c5], _ => exact ⟨c0, c1, c2, c3, c4, c5, rfl⟩
  obtain ⟨fuel, hf⟩ := h
  obtain ⟨x, hx, e⟩ := lsn_trod (c0 := c0) (c1 := c1) (c2 := c2) (c3 := c3) (c4 := c4) (c5 := c5) (by simpa [Value.cells] using hf)
  refine ⟨x, hx, ?_⟩
  simp only [Lsn.cells, List.cons.injEq, and_true] at e
  obtain ⟨rfl, rfl, rfl, rfl, rfl, rfl⟩ := e
  rfl
/-- Three small numbers that came in. -/
theorem open_arr3 {H : Type} {enc : TypeId × Value → H} {W : World} {base : Nat} {v : Value} {d : DataW H} {p : List MemPlace} (hv : Value.okWide Try.prog W .any base 48 v)
    (h : DataW.Trod enc Try.prog W 0 (fun _ => true) true 48 v d p) : ∃ x0 x1 x2 : Int, v = .agg #[.int .i16 x0, .int .i16 x1, .int .i16 x2] ∧ -32768 ≤ x0 ∧ x0 ≤ 32767 ∧ -32768 ≤ x1 ∧ x1 ≤ 32767 ∧ -32768 ≤ x2 ∧ x2 ≤ 32767 := by
  simp only [Value.okWide, Try.underlying48] at hv
  obtain ⟨cs, rfl, hsz, _⟩ := hv
  obtain ⟨fuel, hf⟩ := h
  obtain ⟨c0, c1, c2, rfl⟩ : ∃ c0 c1 c2, cs = #[c0, c1, c2] := by
    have h1 : cs.size = 3 := by rw [hsz, q3]
    obtain ⟨l⟩ := cs
    match l, h1 with
    | [c0, c1, c2], _ => exact ⟨c0, c1, c2, rfl⟩
  obtain ⟨x0, x1, x2, e, b⟩ := open_three (c0 := c0) (c1 := c1) (c2 := c2) (by simpa [Value.cells] using hf)
  simp only [List.cons.injEq, and_true] at e
  obtain ⟨rfl, rfl, rfl⟩ := e
  exact ⟨x0, x1, x2, rfl, b⟩

/-- Lessons that came in. -/
theorem open_lsns {H : Type} {enc : TypeId × Value → H} {W : World} {base : Nat} {v : Value} {d : DataW H} {p : List MemPlace} (hv : Value.okWide Try.prog W .any base 52 v)
    (h : DataW.Trod enc Try.prog W 0 (fun _ => true) true 52 v d p) :
    ∃ (a : Option Addr) (xs : List Lsn) (cap : Nat), v = .slice a xs.length cap ∧ xs.length ≤ 9223372036854775807 ∧ Rd W a (Lsns xs) ∧ ∀ x ∈ xs, x.ok := by
  obtain ⟨a0, len, cap, rfl⟩ := okWide_slice Try.underlying52 hv
  obtain ⟨fuel, hf⟩ := h
  rcases Go.Deep.open_slice Try.underlying52 hf with ⟨hcs, _⟩ | ⟨x, l, c, m, n, D, Pl, hcs, _, hl, hm, hmm, _, hx⟩
  · simp [Value.cells] at hcs
    obtain ⟨rfl, rfl, rfl⟩ := hcs
    exact ⟨none, [], 0, rfl, by simp, Rd.nil _ _, by simp⟩
  · simp [Value.cells] at hcs
    obtain ⟨rfl, rfl, rfl⟩ := hcs
    simp at hmm
    subst hmm
    rw [cells_Lsn] at hx
    have hb : ∀ i, i < len → ∃ y : Lsn, y.ok ∧ ∀ j, j < 6 → W.cell? (x.add (i * 6 + j)) = y.cells[j]? := fun i hi => by
      obtain ⟨cs, h1, h2⟩ := hx i (by omega)
      obtain ⟨_, hlen, hcell⟩ := World.cells?_some h1
      obtain ⟨c0, c1, c2, c3, c4, c5, rfl⟩ : ∃ c0 c1 c2 c3 c4 c5, cs = [c0, c1, c2, c3, c4, c5] := by
        match cs, hlen with
        | [c0, c1, c2, c3, c4, c5], _ => exact ⟨c0, c1, c2, c3, c4, c5, rfl⟩
      obtain ⟨y, hy, e⟩ := lsn_trod h2
      refine ⟨y, hy, fun j hj => ?_⟩
      rw [← e, ← hcell j hj, Go.Deep.add_add]
    obtain ⟨B, hB⟩ := Go.Deep.choose_lt (α := Lsn) (p := fun i y => y.ok ∧ ∀ j, j < 6 → W.cell? (x.add (i * 6 + j)) = y.cells[j]?) hb
    unfold maxLen at hm
    refine ⟨some x, (List.range len).map B, _, by simp; rfl, by simp; omega, ?_, ?_⟩
    · intro hne
      have hpos : 0 < len := by
        rcases Nat.eq_zero_or_pos len with h0 | h0
        · subst h0; simp [Lsns] at hne
        · exact h0
      obtain ⟨b, o, sp⟩ := x
      have h0 := (hB 0 hpos).2 0 (by omega)
      have hsp : sp = none := by
        have h' : W.cell? ⟨b, o, sp⟩ = some (.int .u8 (B 0).ctx) := by simpa [Addr.add, Lsn.cells] using h0
        exact World.cell?_spot h'
      subst hsp
      refine ⟨b, o, rfl, fun j v hv => ?_⟩
      have hjl : j < 6 * len := by
        have := (List.getElem?_eq_some_iff.1 hv).1
        rw [Lsns_length] at this
        simpa using this
      have hi : j / 6 < len := by omega
      have h1 := (hB (j / 6) hi).2 (j % 6) (by omega)
      have h2 := Lsns_at ((List.range len).map B) (i := j / 6) (j := j % 6) (x := B (j / 6)) (by simp [hi]) (by omega)
      rw [show 6 * (j / 6) + j % 6 = j by omega, hv] at h2
      rw [← h2, show j / 6 * 6 + j % 6 = j by omega, Addr.add_mid] at h1
      exact h1
    · intro z hz
      simp only [List.mem_map, List.mem_range] at hz
      obtain ⟨i, hi, rfl⟩ := hz
      exact (hB i hi).1
end Go.Proofs.Ytkpkkbpfcchgaaa
