/- The statement ApmKeeps, out of its walk. No condition. -/
import Derived.Test.YtojdbhcgppcgkaaW11n
import Derived.Test.YtojdbhcgppcgkaaO11b
set_option linter.unusedSimpArgs false
set_option linter.unusedVariables false
set_option linter.unusedSectionVars false
namespace Go.Proofs.Ytojdbhcgppcgkaa
open Go.ChangeShapes Go.WideShapes Go.ChangeAt Go.RowKit

/-- Two small numbers that came in. -/
theorem open_pair16 {H : Type} {enc : TypeId × Value → H} {W : World} {base : Nat} {v : Value} {d : DataW H} {p : List MemPlace} (hv : Value.okWide Try.prog W .any base 57 v)
    (h : DataW.Trod enc Try.prog W 0 (fun _ => true) true 57 v d p) : ∃ x0 x1 : Int, v = .agg #[.int .u16 x0, .int .u16 x1] ∧ 0 ≤ x0 ∧ x0 ≤ 65535 ∧ 0 ≤ x1 ∧ x1 ≤ 65535 := by
  have q2 : Try.prog.cellsOf 57 = 2 := by kernel_rfl
  have q1 : Try.prog.cellsOf 46 = 1 := by kernel_rfl
  simp only [Value.okWide, Try.underlying57] at hv
  obtain ⟨cs, rfl, hsz, _⟩ := hv
  obtain ⟨fuel, hf⟩ := h
  obtain ⟨xs, m, _, _, _, hlen, hx⟩ := DataW.trod_array Try.underlying57 hf
  obtain ⟨c0, c1, rfl⟩ : ∃ c0 c1, cs = #[c0, c1] := by
    have h1 : cs.size = 2 := by rw [hsz, q2]
    obtain ⟨l⟩ := cs
    match l, h1 with
    | [c0, c1], _ => exact ⟨c0, c1, rfl⟩
  obtain ⟨y0, y1, rfl⟩ : ∃ y0 y1, xs = [y0, y1] := by
    match xs, hlen with
    | [y0, y1], _ => exact ⟨y0, y1, rfl⟩
  have t0 := hx 0 (by omega)
  have t1 := hx 1 (by omega)
  rw [q1] at t0 t1
  simp [Value.cells] at t0 t1
  obtain ⟨x0, e0, _, w0⟩ := DataW.trod_int Try.underlying46 t0
  obtain ⟨x1, e1, _, w1⟩ := DataW.trod_int Try.underlying46 t1
  simp at e0 e1
  subst e0 e1
  have b0 := bounds_u16 w0
  have b1 := bounds_u16 w1
  exact ⟨x0, x1, rfl, b0.1, b0.2, b1.1, b1.2⟩

set_option maxRecDepth 100000 in
theorem lifted_ApmKeeps (os : Os) (started : os.Started) (H : Type) (enc : TypeId × Value → H) :
    ReturnsInHanded {} Try.checked os 9 .any (Rows.apmKeepsSpec.pre6 enc Try.prog Try.f9 Rows.apmKeepsRow.domain false) (Rows.apmKeepsSpec.post enc Try.prog Try.f9 false true false false) := by
  refine returnsInHanded_of_change (C := Try.checked) lawOwn started (by kernel_rfl) Try.func9
    (ChangeSpec.witness6 (enc := enc) (C := Try.checked) false ⟨#[], #[.slice none 0 0, .agg #[.int .u8 0, .int .u8 0, .int .u16 0, .bool false], .agg #[.int .u16 0, .int .u16 0]], []⟩ 8 (by kernel_rfl) (by kernel_rfl) (by kernel_rfl) (by kernel_rfl)) ?_
  intro W base args ds gs before hval0 hW hcnd _
  have hval : ∀ (j : Nat) t v, Try.f9.params[j]? = some t → args[j]? = some v → Value.okWide Try.prog W .any base t v := hval0
  have hW' := hW
  obtain ⟨p, q, hA0, hV, rfl, hfz, hnd⟩ := hW
  have hA : DataW.TrodAll enc Try.prog W 0 (fun _ => true) true Try.f9.params.toList args.toList ds p := hA0
  rw [Try.params9] at hA hval
  obtain ⟨v0, vs0, d0, ds0, p0, q0, hargs, rfl, rfl, h0, r0⟩ := trodAll_cons hA
  obtain ⟨v1, vs1, d1, ds1, p1, q1, rfl, rfl, rfl, h1, r1⟩ := trodAll_cons r0
  obtain ⟨v2, vs2, d2, ds2, p2, q2, rfl, rfl, rfl, h2, r2⟩ := trodAll_cons r1
  obtain ⟨rfl, rfl, rfl⟩ := trodAll_nil r2
  obtain rfl : args = #[v0, v1, v2] := by cases args; simp_all
  obtain ⟨rfl, rfl⟩ := trodVars_none hV
  have k0 := h0
  have lt0 : ∀ x ∈ p0, x.block < W.heap.size := by obtain ⟨m, hm⟩ := k0; exact DataW.trod_lt m _ _ _ hm
  have ok0 := hval 0 51 v0 rfl rfl
  have k1 := h1
  have lt1 : ∀ x ∈ p1, x.block < W.heap.size := by obtain ⟨m, hm⟩ := k1; exact DataW.trod_lt m _ _ _ hm
  have ok1 := hval 1 53 v1 rfl rfl
  have k2 := h2
  have lt2 : ∀ x ∈ p2, x.block < W.heap.size := by obtain ⟨m, hm⟩ := k2; exact DataW.trod_lt m _ _ _ hm
  have ok2 := hval 2 57 v2 rfl rfl
  clear hA0 hval0
  obtain ⟨a, xs, cap, rfl, hl, hrd, hok⟩ := open_lsns ok0 h0
  obtain ⟨x, hx, rfl⟩ := open_lsn ok1 h1
  obtain ⟨x0, x1, rfl, p0, p1, p2, p3⟩ := open_pair16 ok2 h2
  refine (apmKeeps_any xs a cap x x0 x1 W hl hrd hok hx p0 p1 p2 p3).mono fun e W' ⟨he, bel⟩ => ?_
  subst he
  exact ⟨_, rfl, _, _, _, [], _, [], hW', trodAll_mk1 (shut_bool Try.underlying4 _), (trodAll_cons_mk (Below.trod lawLaid (by kernel_rfl) (of_decide_eq_true (by kernel_rfl)) k0 bel lt0) (trodAll_cons_mk (Below.trod lawLaid (by kernel_rfl) (of_decide_eq_true (by kernel_rfl)) k1 bel lt1) (trodAll_cons_mk (Below.trod lawLaid (by kernel_rfl) (of_decide_eq_true (by kernel_rfl)) k2 bel lt2) trodAll_mk0))), rfl, bel.frame _, fun h => by cases h⟩

/-- The statement. -/
theorem ApmKeeps_holds : Rows.ApmKeepsSaid :=
  OpenClaim.holds_of_wide 9 Try.f9 rfl rfl rfl rfl rfl rfl rfl ⟨rfl, rfl, rfl, rfl, rfl⟩ rfl rfl rfl rfl rfl (by kernel_rfl) Try.func9 (by kernel_rfl)
    (of_decide_eq_true (by kernel_rfl)) (by unfold Func.isWrapper; rw [if_neg (of_decide_eq_false (by kernel_rfl))]; exact ⟨rfl, rfl⟩)
    (fun os started H enc _ => lifted_ApmKeeps os started H enc)

end Go.Proofs.Ytojdbhcgppcgkaa
