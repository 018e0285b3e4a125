/- Arguments opened: steps, three bytes. No condition. -/
import Derived.Test.YtgbjckjfjoiilaaO10
import Derived.Test.YtgbjckjfjoiilaaW10ai
import Derived.Deep.Strs
set_option linter.unusedSimpArgs false
set_option linter.unusedVariables false
set_option linter.unusedSectionVars false
namespace Go.Proofs.Ytgbjckjfjoiilaa
open Go.ChangeShapes Go.WideShapes Go.ChangeAt Go.RowKit

theorem cells_Step : Try.prog.cellsOf 64 = 3 := by kernel_rfl
theorem cells_u32 : Try.prog.cellsOf 43 = 1 := by kernel_rfl
theorem nat_of_u8 {x : Int} (h : (Lit.int .u8 x).wf = true) : ∃ n : Nat, x = n ∧ n < 256 := by
  have b := wf_u8 h
  obtain ⟨n, rfl⟩ := Int.eq_ofNat_of_zero_le b.1
  exact ⟨n, rfl, by omega⟩
theorem nat_of_u32 {x : Int} (h : (Lit.int .u32 x).wf = true) : ∃ n : Nat, x = n ∧ n < 4294967296 := by
  have b := wf_u32 h
  obtain ⟨n, rfl⟩ := Int.eq_ofNat_of_zero_le b.1
  exact ⟨n, rfl, by omega⟩
theorem stp_trod {H : Type} {enc : TypeId × Value → H} {W : World} {fuel : Nat} {c0 c1 c2 : Value} {y : DataW H × List MemPlace} (h : DataW.trod enc Try.prog W 0 (fun _ => true) true fuel 64 [c0, c1, c2] = some y) :
    ∃ x : Stp, x.ok ∧ [c0, c1, c2] = x.cells := by
  obtain ⟨y0, y1, y2, k, _, _, t0, t1, t2⟩ := Go.Deep.trod_struct3 Try.underlying64 h
  simp only [cells_u32, cells_u8] at t0 t1 t2
  obtain ⟨x0, e0, _, w0⟩ := DataW.trod_int Try.underlying43 t0
  obtain ⟨x1, e1, _, w1⟩ := DataW.trod_int Try.underlying5 t1
  obtain ⟨x2, e2, _, w2⟩ := DataW.trod_int Try.underlying5 t2
  simp at e0 e1 e2
  obtain ⟨n0, rfl, b0⟩ := nat_of_u32 w0
  obtain ⟨n1, rfl, b1⟩ := nat_of_u8 w1
  obtain ⟨n2, rfl, b2⟩ := nat_of_u8 w2
  exact ⟨⟨n0, n1, n2⟩, ⟨b0, b1, b2⟩, by rw [e0, e1, e2]; rfl⟩

set_option maxRecDepth 100000 in
/-- Steps that came in. -/
theorem open_stps {H : Type} {enc : TypeId × Value → H} {W : World} {base : Nat} {v : Value} {d : DataW H} {p : List MemPlace} (hv : Value.okWide Try.prog W .any base 68 v)
    (h : DataW.Trod enc Try.prog W 0 (fun _ => true) true 68 v d p) :
    ∃ (a : Option Addr) (xs : List Stp) (cap : Nat), v = .slice a xs.length cap ∧ xs.length ≤ 9223372036854775807 ∧ Rd W a (Stps xs) ∧ ∀ x ∈ xs, x.ok := by
  obtain ⟨a0, len, cap, rfl⟩ := okWide_slice Try.underlying68 hv
  obtain ⟨fuel, hf⟩ := h
  rcases Go.Deep.open_slice Try.underlying68 hf with ⟨hcs, _⟩ | ⟨x, l, c, m, n, D, Pl, hcs, _, hl, hm, hmm, _, hx⟩
  · simp [Value.cells] at hcs
    obtain ⟨rfl, rfl, rfl⟩ := hcs
    exact ⟨none, [], 0, rfl, by simp, Rd.nil _ _, by simp⟩
  · simp [Value.cells] at hcs
    obtain ⟨rfl, rfl, rfl⟩ := hcs
    simp at hmm
    subst hmm
    rw [cells_Step] at hx
    have hb : ∀ i, i < len → ∃ y : Stp, y.ok ∧ ∀ j, j < 3 → W.cell? (x.add (i * 3 + j)) = y.cells[j]? := fun i hi => by
      obtain ⟨cs, h1, h2⟩ := hx i (by omega)
      obtain ⟨_, hlen, hcell⟩ := World.cells?_some h1
      obtain ⟨c0, c1, c2, rfl⟩ : ∃ c0 c1 c2, cs = [c0, c1, c2] := by
        match cs, hlen with
        | [c0, c1, c2], _ => exact ⟨c0, c1, c2, rfl⟩
      obtain ⟨y, hy, e⟩ := stp_trod h2
      refine ⟨y, hy, fun j hj => ?_⟩
      rw [← e, ← hcell j hj, Go.Deep.add_add]
    have hinh : Inhabited Stp := ⟨⟨0, 0, 0⟩⟩
    obtain ⟨B, hB⟩ := Go.Deep.choose_lt (α := Stp) (p := fun i y => y.ok ∧ ∀ j, j < 3 → W.cell? (x.add (i * 3 + j)) = y.cells[j]?) hb
    unfold maxLen at hm
    refine ⟨some x, (List.range len).map B, _, by simp; rfl, by simp; omega, ?_, ?_⟩
    · intro hne
      have hpos : 0 < len := by
        rcases Nat.eq_zero_or_pos len with h0 | h0
        · subst h0; simp [Stps] at hne
        · exact h0
      obtain ⟨b, o, sp⟩ := x
      have h0 := (hB 0 hpos).2 0 (by omega)
      have hsp : sp = none := by
        have h' : W.cell? ⟨b, o, sp⟩ = some (.int .u32 ((B 0).h : Int)) := by simpa [Addr.add, Stp.cells] using h0
        exact World.cell?_spot h'
      subst hsp
      refine ⟨b, o, rfl, fun j v hv => ?_⟩
      have hjl : j < 3 * len := by
        have := (List.getElem?_eq_some_iff.1 hv).1
        rw [Stps_length] at this
        simpa using this
      have hi : j / 3 < len := by omega
      have h1 := (hB (j / 3) hi).2 (j % 3) (by omega)
      have h2 := Stps_at ((List.range len).map B) (i := j / 3) (j := j % 3) (x := B (j / 3)) (by simp [hi]) (by omega)
      rw [show 3 * (j / 3) + j % 3 = j by omega, hv] at h2
      rw [← h2, show j / 3 * 3 + j % 3 = j by omega, Addr.add_mid] at h1
      exact h1
    · intro z hz
      simp only [List.mem_map, List.mem_range] at hz
      obtain ⟨i, hi, rfl⟩ := hz
      exact (hB i hi).1

theorem cells_threeu8 : Try.prog.cellsOf 69 = 3 := by kernel_rfl
set_option maxRecDepth 100000 in
/-- Three numbers that came in. -/
theorem open_threeu8 {H : Type} {enc : TypeId × Value → H} {W : World} {base : Nat} {v : Value} {d : DataW H} {p : List MemPlace} (hv : Value.okWide Try.prog W .any base 69 v)
    (h : DataW.Trod enc Try.prog W 0 (fun _ => true) true 69 v d p) : ∃ x0 x1 x2 : Nat, v = .agg #[.int .u8 (x0 : Int), .int .u8 (x1 : Int), .int .u8 (x2 : Int)] ∧ x0 < 256 ∧ x1 < 256 ∧ x2 < 256 := by
  simp only [Value.okWide, Try.underlying69] at hv
  obtain ⟨cs, rfl, hsz, _⟩ := hv
  obtain ⟨fuel, hf⟩ := h
  obtain ⟨c0, c1, c2, rfl⟩ : ∃ c0 c1 c2, cs = #[c0, c1, c2] := by
    have h1 : cs.size = 3 := by rw [hsz, cells_threeu8]
    obtain ⟨l⟩ := cs
    match l, h1 with
    | [c0, c1, c2], _ => exact ⟨c0, c1, c2, rfl⟩
  obtain ⟨y0, y1, y2, n, _, t0, t1, t2⟩ := trod_array3 (c0 := c0) (c1 := c1) (c2 := c2) Try.underlying69 cells_u8 (by simpa [Value.cells] using hf)
  obtain ⟨x0, e0, _, w0⟩ := DataW.trod_int Try.underlying5 t0
  obtain ⟨x1, e1, _, w1⟩ := DataW.trod_int Try.underlying5 t1
  obtain ⟨x2, e2, _, w2⟩ := DataW.trod_int Try.underlying5 t2
  simp at e0 e1 e2
  subst e0 e1 e2
  obtain ⟨n0, rfl, b0⟩ := nat_of_u8 w0
  obtain ⟨n1, rfl, b1⟩ := nat_of_u8 w1
  obtain ⟨n2, rfl, b2⟩ := nat_of_u8 w2
  exact ⟨n0, n1, n2, rfl, b0, b1, b2⟩
theorem cells_threeu32 : Try.prog.cellsOf 60 = 3 := by kernel_rfl
set_option maxRecDepth 100000 in
/-- Three numbers that came in. -/
theorem open_threeu32 {H : Type} {enc : TypeId × Value → H} {W : World} {base : Nat} {v : Value} {d : DataW H} {p : List MemPlace} (hv : Value.okWide Try.prog W .any base 60 v)
    (h : DataW.Trod enc Try.prog W 0 (fun _ => true) true 60 v d p) : ∃ x0 x1 x2 : Nat, v = .agg #[.int .u32 (x0 : Int), .int .u32 (x1 : Int), .int .u32 (x2 : Int)] ∧ x0 < 4294967296 ∧ x1 < 4294967296 ∧ x2 < 4294967296 := by
  simp only [Value.okWide, Try.underlying60] at hv
  obtain ⟨cs, rfl, hsz, _⟩ := hv
  obtain ⟨fuel, hf⟩ := h
  obtain ⟨c0, c1, c2, rfl⟩ : ∃ c0 c1 c2, cs = #[c0, c1, c2] := by
    have h1 : cs.size = 3 := by rw [hsz, cells_threeu32]
    obtain ⟨l⟩ := cs
    match l, h1 with
    | [c0, c1, c2], _ => exact ⟨c0, c1, c2, rfl⟩
  obtain ⟨y0, y1, y2, n, _, t0, t1, t2⟩ := trod_array3 (c0 := c0) (c1 := c1) (c2 := c2) Try.underlying60 cells_u32 (by simpa [Value.cells] using hf)
  obtain ⟨x0, e0, _, w0⟩ := DataW.trod_int Try.underlying43 t0
  obtain ⟨x1, e1, _, w1⟩ := DataW.trod_int Try.underlying43 t1
  obtain ⟨x2, e2, _, w2⟩ := DataW.trod_int Try.underlying43 t2
  simp at e0 e1 e2
  subst e0 e1 e2
  obtain ⟨n0, rfl, b0⟩ := nat_of_u32 w0
  obtain ⟨n1, rfl, b1⟩ := nat_of_u32 w1
  obtain ⟨n2, rfl, b2⟩ := nat_of_u32 w2
  exact ⟨n0, n1, n2, rfl, b0, b1, b2⟩
end Go.Proofs.Ytgbjckjfjoiilaa
