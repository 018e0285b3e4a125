/- Arguments opened: match models (layer 12). No condition. -/
import Derived.Test.YtbfgdaijpcbddaaO12
import Derived.Test.YtbfgdaijpcbddaaW12ak
import Derived.Deep.SlicePairs
set_option linter.unusedSimpArgs false
set_option linter.unusedVariables false
set_option linter.unusedSectionVars false
namespace Go.Proofs.Ytbfgdaijpcbddaa
open Go.ChangeShapes Go.WideShapes Go.ChangeAt Go.RowKit

theorem cells_int : Try.prog.cellsOf 3 = 1 := by kernel_rfl
theorem cells_Counter : Try.prog.cellsOf 35 = 2 := by kernel_rfl
theorem cells_Match : Try.prog.cellsOf 27 = 9 := by kernel_rfl
theorem cells_ints : Try.prog.cellsOf 24 = 1 := by kernel_rfl
theorem cells_bytes : Try.prog.cellsOf 22 = 1 := by kernel_rfl
theorem cells_ctrs : Try.prog.cellsOf 25 = 1 := by kernel_rfl

/-- A slice of numbers, from its cell. -/
theorem open_intsCell {H : Type} {enc : TypeId × Value → H} {W : World} {m0 : Nat} {c0 : Value} {y : DataW H × List MemPlace}
    (hf : DataW.trod enc Try.prog W 0 (fun _ => true) true m0 24 [c0] = some y) :
    ∃ (a : Option Addr) (xs : List Int) (cap : Nat), c0 = .slice a xs.length cap ∧ Rd W a (Ints xs) := by
  rcases Go.Deep.open_slice1 Try.underlying24 cells_int hf with ⟨hcs, _⟩ | ⟨x, l, c, m, n, V, D, Pl, hcs, _, hl, hm, hmm, _, hx⟩
  · simp at hcs
    subst hcs
    exact ⟨none, [], 0, rfl, Rd.nil _ _⟩
  · simp at hcs
    subst hcs
    have hb : ∀ i, i < l → ∃ z : Int, V i = .int .i64 z := fun i hi => by
      obtain ⟨z, e0, _, wz⟩ := DataW.trod_int Try.underlying3 (hx i (by simp at hmm; omega)).2
      simp at e0
      exact ⟨z, e0⟩
    obtain ⟨B, hB⟩ := Go.Deep.choose_lt (α := Int) (p := fun i z => V i = .int .i64 z) hb
    simp at hmm
    refine ⟨some x, (List.range l).map B, c, by simp, ?_⟩
    intro hne
    have hpos : 0 < l := by
      rcases Nat.eq_zero_or_pos l with h0 | h0
      · subst h0; simp [Ints] at hne
      · exact h0
    obtain ⟨b, o, sp⟩ := x
    have h0 := (hx 0 (by omega)).1
    have hsp : sp = none := by
      have h' : W.cell? ⟨b, o, sp⟩ = some (V 0) := by simpa [Addr.add] using h0
      exact World.cell?_spot h'
    subst hsp
    refine ⟨b, o, rfl, fun j v hv => ?_⟩
    simp only [Ints, List.map_map, List.getElem?_map] at hv
    have hj : j < l := by
      by_cases hj : j < l
      · exact hj
      · rw [List.getElem?_eq_none (by simp; omega)] at hv; simp at hv
    rw [List.getElem?_range hj] at hv
    simp at hv
    have := (hx j (by omega)).1
    rw [Addr.add_mid] at this
    rw [this, hB j hj, hv]

set_option maxRecDepth 100000 in
/-- A slice of counters, from its cell. -/
theorem open_ctrsCell {H : Type} {enc : TypeId × Value → H} {W : World} {m0 : Nat} {c0 : Value} {y : DataW H × List MemPlace}
    (hf : DataW.trod enc Try.prog W 0 (fun _ => true) true m0 25 [c0] = some y) :
    ∃ (a : Option Addr) (xs : List (Int × Int)) (cap : Nat), c0 = .slice a xs.length cap ∧ Rd W a (Cts xs) := by
  rcases Go.Deep.open_slice_pairs Try.underlying25 Try.underlying35 cells_Counter rfl rfl cells_int cells_int hf with ⟨hcs, _⟩ | ⟨x, l, c, m, n, V0, V1, D0, D1, P0, P1, hcs, _, hl, hm, hmm, _, hx⟩
  · simp at hcs
    subst hcs
    exact ⟨none, [], 0, rfl, Rd.nil _ _⟩
  · simp at hcs
    subst hcs
    simp at hmm
    subst hmm
    have hb : ∀ i, i < l → ∃ z : Int × Int, V0 i = .int .i64 z.1 ∧ V1 i = .int .i64 z.2 := fun i hi => by
      obtain ⟨_, _, t0, t1⟩ := hx i (by omega)
      obtain ⟨z0, e0, _, _⟩ := DataW.trod_int Try.underlying3 t0
      obtain ⟨z1, e1, _, _⟩ := DataW.trod_int Try.underlying3 t1
      simp at e0 e1
      exact ⟨(z0, z1), e0, e1⟩
    obtain ⟨B, hB⟩ := Go.Deep.choose_lt (α := Int × Int) (p := fun i z => V0 i = .int .i64 z.1 ∧ V1 i = .int .i64 z.2) hb
    refine ⟨some x, (List.range l).map B, _, by simp; rfl, ?_⟩
    intro hne
    have hpos : 0 < l := by
      rcases Nat.eq_zero_or_pos l with h0 | h0
      · subst h0; simp [Cts] at hne
      · exact h0
    obtain ⟨b, o, sp⟩ := x
    have h0 := (hx 0 (by omega)).1
    have hsp : sp = none := by
      have h' : W.cell? ⟨b, o, sp⟩ = some (V0 0) := by simpa [Addr.add] using h0
      exact World.cell?_spot h'
    subst hsp
    refine ⟨b, o, rfl, fun j v hv => ?_⟩
    have hjl : j < l * 2 := by
      have := (List.getElem?_eq_some_iff.1 hv).1
      rw [Cts_length] at this
      simpa using this
    have hi : j / 2 < l := by omega
    have hi2 : j / 2 < ((List.range l).map B).length := by simpa using hi
    obtain ⟨g0, g1, _, _⟩ := hx (j / 2) (by omega)
    obtain ⟨b0, b1⟩ := hB (j / 2) hi
    have k := Cts_at hi2
    simp only [List.getElem_map, List.getElem_range] at k
    rw [Addr.add_mid] at g0 g1
    rcases Nat.mod_two_eq_zero_or_one j with hj | hj
    · rw [show j / 2 * 2 = j by omega] at g0 k
      rw [hv] at k
      rw [g0, b0]
      exact k.1.symm
    · rw [show j / 2 * 2 + 1 = j by omega] at g1 k
      rw [hv] at k
      rw [g1, b1]
      exact k.2.symm

set_option maxRecDepth 100000 in
set_option maxHeartbeats 1000000 in
/-- A model that came in. -/
theorem open_match {H : Type} {enc : TypeId × Value → H} {W : World} {base : Nat} {v : Value} {d : DataW H} {p : List MemPlace} (hv : Value.okWide Try.prog W .any base 27 v)
    (h : DataW.Trod enc Try.prog W 0 (fun _ => true) true 27 v d p) :
    ∃ (m : S12.M) (q : Pl), v = MV m q ∧ Rd W q.ah (Ints m.heads) ∧ Rd W q.ab (Bts m.bytes) ∧ Rd W q.ac (Cts m.ctrs) ∧ S12.Byt m.bytes ∧ m.bytes.length ≤ q.cb := by
  obtain ⟨cs, rfl, hsz⟩ := okWide_struct Try.underlying27 hv
  rw [cells_Match] at hsz
  obtain ⟨fuel, hf⟩ := h
  obtain ⟨xs, k, hk, hxy, _, hxl, hg⟩ := DataW.trod_struct Try.underlying27 hf
  obtain ⟨l⟩ := cs
  match xs, hxl, l, hsz with
  | [y0, y1, y2, y3, y4, y5, y6, y7, y8], _, [v0, v1, v2, v3, v4, v5, v6, v7, v8], _ =>
    have g0 := hg 0 _ rfl
    have g1 := hg 1 _ rfl
    have g2 := hg 2 _ rfl
    have g3 := hg 3 _ rfl
    have g4 := hg 4 _ rfl
    have g5 := hg 5 _ rfl
    have g6 := hg 6 _ rfl
    have g7 := hg 7 _ rfl
    have g8 := hg 8 _ rfl
    simp [Value.cells, cells_int, cells_ints, cells_bytes, cells_ctrs] at g0 g1 g2 g3 g4 g5 g6 g7 g8
    obtain ⟨z0, e0, _, _⟩ := DataW.trod_int Try.underlying3 g0
    obtain ⟨z1, e1, _, _⟩ := DataW.trod_int Try.underlying3 g1
    obtain ⟨a2, x2, c2, e2, r2⟩ := open_intsCell g2
    obtain ⟨a3, x3, c3, e3, l3, _, r3, b3⟩ := open_bytesCell g3
    obtain ⟨z4, e4, _, _⟩ := DataW.trod_int Try.underlying3 g4
    obtain ⟨z5, e5, _, _⟩ := DataW.trod_int Try.underlying3 g5
    obtain ⟨z6, e6, _, _⟩ := DataW.trod_int Try.underlying3 g6
    obtain ⟨z7, e7, _, _⟩ := DataW.trod_int Try.underlying3 g7
    obtain ⟨a8, x8, c8, e8, r8⟩ := open_ctrsCell g8
    simp at e0 e1 e4 e5 e6 e7
    subst e0 e1 e2 e3 e4 e5 e6 e7 e8
    exact ⟨⟨z0, z1, x2, x3, z4, z5, z6, z7, x8⟩, ⟨a2, c2, a3, c3, a8, c8⟩, rfl, r2, r3, r8, b3, l3⟩
end Go.Proofs.Ytbfgdaijpcbddaa
