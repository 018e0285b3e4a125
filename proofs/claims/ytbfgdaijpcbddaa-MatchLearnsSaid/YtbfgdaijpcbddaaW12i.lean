/- New (layer 12). No condition. -/
import Derived.Test.YtbfgdaijpcbddaaW12h
set_option linter.unusedSimpArgs false
set_option linter.unusedVariables false
set_option linter.unusedSectionVars false
namespace Go.Proofs.Ytbfgdaijpcbddaa
open Go.RowKit

theorem Blk.put9 {w : World} {b : Nat} {t : TypeId} {c0 c1 c2 c3 c4 c5 c6 c7 c8 : Value} (h : Blk w b [c0, c1, c2, c3, c4, c5, c6, c7, c8] t) (v0 v1 v2 v3 v4 v5 v6 v7 v8 : Value) :
    Blk (((((((((w.setCell ⟨b, 0, none⟩ v0).setCell ⟨b, 1, none⟩ v1).setCell ⟨b, 2, none⟩ v2).setCell ⟨b, 3, none⟩ v3).setCell ⟨b, 4, none⟩ v4).setCell ⟨b, 5, none⟩ v5).setCell ⟨b, 6, none⟩ v6).setCell ⟨b, 7, none⟩ v7).setCell ⟨b, 8, none⟩ v8) b [v0, v1, v2, v3, v4, v5, v6, v7, v8] t :=
  ((((((((h.set 0 v0).set 1 v1).set 2 v2).set 3 v3).set 4 v4).set 5 v5).set 6 v6).set 7 v7).set 8 v8
theorem below_put9 {w0 w : World} {B b : Nat} (h : Below B w0 w) (hb : B ≤ b) (v0 v1 v2 v3 v4 v5 v6 v7 v8 : Value) :
    Below B w0 (((((((((w.setCell ⟨b, 0, none⟩ v0).setCell ⟨b, 1, none⟩ v1).setCell ⟨b, 2, none⟩ v2).setCell ⟨b, 3, none⟩ v3).setCell ⟨b, 4, none⟩ v4).setCell ⟨b, 5, none⟩ v5).setCell ⟨b, 6, none⟩ v6).setCell ⟨b, 7, none⟩ v7).setCell ⟨b, 8, none⟩ v8) :=
  ((((((((h.setCell (p := ⟨b, 0, none⟩) hb v0).setCell (p := ⟨b, 1, none⟩) hb v1).setCell (p := ⟨b, 2, none⟩) hb v2).setCell (p := ⟨b, 3, none⟩) hb v3).setCell (p := ⟨b, 4, none⟩) hb v4).setCell (p := ⟨b, 5, none⟩) hb v5).setCell (p := ⟨b, 6, none⟩) hb v6).setCell (p := ⟨b, 7, none⟩) hb v7).setCell (p := ⟨b, 8, none⟩) hb v8
/-- The lists of a model lie at B or beyond. -/
def Far (B : Nat) (p : Pl) : Prop := (∀ g o, p.ah = some ⟨g, o, none⟩ → B ≤ g) ∧ (∀ g o, p.ab = some ⟨g, o, none⟩ → B ≤ g) ∧ (∀ g o, p.ac = some ⟨g, o, none⟩ → B ≤ g)
theorem Far.mono {B B' : Nat} {p : Pl} (h : Far B p) (hb : B' ≤ B) : Far B' p := ⟨fun g o e => Nat.le_trans hb (h.1 g o e), fun g o e => Nat.le_trans hb (h.2.1 g o e), fun g o e => Nat.le_trans hb (h.2.2 g o e)⟩
theorem Far.none (B : Nat) : Far B ⟨none, 0, none, 0, none, 0⟩ := ⟨(fun _ _ e => (by cases e)), (fun _ _ e => (by cases e)), (fun _ _ e => (by cases e))⟩
theorem Rd.put9 {w : World} {a : Option Addr} {vals : List Value} (h : Rd w a vals) {b : Nat} (hne : ∀ g o, a = some ⟨g, o, none⟩ → vals ≠ [] → ¬ g = b) (v0 v1 v2 v3 v4 v5 v6 v7 v8 : Value) :
    Rd (((((((((w.setCell ⟨b, 0, none⟩ v0).setCell ⟨b, 1, none⟩ v1).setCell ⟨b, 2, none⟩ v2).setCell ⟨b, 3, none⟩ v3).setCell ⟨b, 4, none⟩ v4).setCell ⟨b, 5, none⟩ v5).setCell ⟨b, 6, none⟩ v6).setCell ⟨b, 7, none⟩ v7).setCell ⟨b, 8, none⟩ v8) a vals := fun hv => by
  obtain ⟨g, o, e, hr⟩ := h hv
  refine ⟨g, o, e, fun j u hu => ?_⟩
  have hg : ∀ (X : World) i (v : Value), (X.setCell ⟨b, i, none⟩ v).cell? ⟨g, o + j, none⟩ = X.cell? ⟨g, o + j, none⟩ := fun X i v => cell?_setCell_blk X b i g (o + j) v (fun h2 => hne g o e hv h2.symm)
  rw [hg, hg, hg, hg, hg, hg, hg, hg, hg]
  exact hr j u hu
/-- Nine cells of the call's own. -/
structure Nine (w : World) (b : Nat) (c0 c1 c2 c3 c4 c5 c6 c7 c8 : Value) : Prop where
  e0 : w.cell? ⟨b, 0, none⟩ = some c0
  e1 : w.cell? ⟨b, 1, none⟩ = some c1
  e2 : w.cell? ⟨b, 2, none⟩ = some c2
  e3 : w.cell? ⟨b, 3, none⟩ = some c3
  e4 : w.cell? ⟨b, 4, none⟩ = some c4
  e5 : w.cell? ⟨b, 5, none⟩ = some c5
  e6 : w.cell? ⟨b, 6, none⟩ = some c6
  e7 : w.cell? ⟨b, 7, none⟩ = some c7
  e8 : w.cell? ⟨b, 8, none⟩ = some c8
theorem Blk.nine {w : World} {b : Nat} {t : TypeId} {c0 c1 c2 c3 c4 c5 c6 c7 c8 : Value} (h : Blk w b [c0, c1, c2, c3, c4, c5, c6, c7, c8] t) : Nine w b c0 c1 c2 c3 c4 c5 c6 c7 c8 :=
  ⟨h.cell 0, h.cell 1, h.cell 2, h.cell 3, h.cell 4, h.cell 5, h.cell 6, h.cell 7, h.cell 8⟩

theorem elems_int12 : Elems Try.prog 24 3 1 8 [.int .i64 0] := ⟨Try.underlying24, by kernel_rfl, rfl, by decide⟩
/-- The model of an error. -/
def S12.zero : S12.M := ⟨0, 0, [], [], 0, 0, 0, 0, []⟩
def S12.okN (bits least : Int) : Bool := decide (1 ≤ bits ∧ bits ≤ 16) && decide (1 ≤ least ∧ least ≤ 32)
def S12.newM (bits least : Int) : S12.M := if S12.okN bits least = true then ⟨bits, least, List.replicate (2 ^ bits.toNat) 0, [], 0, 0, 1, 2, List.replicate 16 (32768, 0)⟩ else S12.zero
def S12.newE (bits least : Int) : Int := if S12.okN bits least = true then 0 else 2
theorem MIs.zero (w : World) : MIs S12.zero ⟨none, 0, none, 0, none, 0⟩ w :=
  ⟨Rd.nil _ _, Rd.nil _ _, Rd.nil _ _, fun _ hx => absurd hx List.not_mem_nil, Nat.le_refl _, Nat.zero_le _, Nat.zero_le _, Nat.zero_le _⟩
theorem MV_zero : MV S12.zero ⟨none, 0, none, 0, none, 0⟩ = .agg #[.int .i64 0, .int .i64 0, .slice none 0 0, .slice none 0 0, .int .i64 0, .int .i64 0, .int .i64 0, .int .i64 0, .slice none 0 0] := rfl
theorem Cts_fresh : Cts (List.replicate 16 ((32768 : Int), (0 : Int))) = S08.fresh 16 := by kernel_rfl
theorem table_16 : S08.tableLen 16 = 16 ∧ S08.tableErr 16 = 0 := ⟨rfl, rfl⟩
theorem Ints_zeros (n : Nat) : Ints (List.replicate n 0) = List.replicate n (.int .i64 0) := by simp [Ints]

set_option maxRecDepth 100000 in
set_option maxHeartbeats 1000000 in
theorem new12_bad (bits least : Int) (w : World) (hno : S12.okN bits least = false) :
    Calls Try.prog 12 #[.int .i64 bits, .int .i64 least] w fun e w' => e = .returned (.tuple #[.agg #[.int .i64 0, .int .i64 0, .slice none 0 0, .slice none 0 0, .int .i64 0, .int .i64 0, .int .i64 0, .int .i64 0, .slice none 0 0], .int .i64 2]) ∧ Below w.heap.size w w' := by
  have HW := Lib.hid fun n lo hi W => within12_any n lo hi W
  have B0 := Blk.new w [.int .i64 0, .int .i64 0, .slice none 0 0, .slice none 0 0, .int .i64 0, .int .i64 0, .int .i64 0, .int .i64 0, .slice none 0 0] 27
  go_enter Try.func12, Try.ntmps12
  go_wp2_with fail
  refine (HW.out _ _ _ _).mono ?_
  rintro e w1 ⟨rfl, hb1⟩
  have hB1 : Below w.heap.size w w1 := below_trans (by go_grown) hb1
  by_cases h1 : ¬ (1 ≤ bits ∧ bits ≤ 16)
  · rw [decide_eq_false h1]
    have B1 := B0.step hb1
    obtain ⟨x0, x1, x2, x3, x4, x5, x6, x7, x8⟩ := B1.nine
    have f0 := B1.free 0
    have f1 := B1.free 1
    have f2 := B1.free 2
    have f3 := B1.free 3
    have f4 := B1.free 4
    have f5 := B1.free 5
    have f6 := B1.free 6
    have f7 := B1.free 7
    have f8 := B1.free 8
    have B2 := B1.put9 (.int .i64 0) (.int .i64 0) (.slice none 0 0) (.slice none 0 0) (.int .i64 0) (.int .i64 0) (.int .i64 0) (.int .i64 0) (.slice none 0 0)
    obtain ⟨y0, y1, y2, y3, y4, y5, y6, y7, y8⟩ := B2.nine
    go_wp2_with fail
    exact bodyPost_ret (v := .tuple #[.agg #[.int .i64 0, .int .i64 0, .slice none 0 0, .slice none 0 0, .int .i64 0, .int .i64 0, .int .i64 0, .int .i64 0, .slice none 0 0], .int .i64 2]) (by simp [results, Try.results12, go_sem, y0, y1, y2, y3, y4, y5, y6, y7, y8]) rfl ⟨rfl, below_put9 hB1 (Nat.le_refl _) _ _ _ _ _ _ _ _ _⟩
  replace h1 := Classical.not_not.1 h1
  have h2 : ¬ (1 ≤ least ∧ least ≤ 32) := by unfold S12.okN at hno; rw [decide_eq_true h1, Bool.true_and] at hno; exact of_decide_eq_false hno
  rw [decide_eq_true h1]
  have B1 := B0.step hb1
  clear B0
  go_wp2_with fail
  refine (HW.out _ _ _ _).mono ?_
  rintro e w2 ⟨rfl, hb2⟩
  have hB2 : Below w.heap.size w w2 := below_trans hB1 hb2
  rw [decide_eq_false h2]
  have B2 := B1.step hb2
  obtain ⟨x0, x1, x2, x3, x4, x5, x6, x7, x8⟩ := B2.nine
  have f0 := B2.free 0
  have f1 := B2.free 1
  have f2 := B2.free 2
  have f3 := B2.free 3
  have f4 := B2.free 4
  have f5 := B2.free 5
  have f6 := B2.free 6
  have f7 := B2.free 7
  have f8 := B2.free 8
  have B3 := B2.put9 (.int .i64 0) (.int .i64 0) (.slice none 0 0) (.slice none 0 0) (.int .i64 0) (.int .i64 0) (.int .i64 0) (.int .i64 0) (.slice none 0 0)
  obtain ⟨y0, y1, y2, y3, y4, y5, y6, y7, y8⟩ := B3.nine
  go_wp2_with fail
  exact bodyPost_ret (v := .tuple #[.agg #[.int .i64 0, .int .i64 0, .slice none 0 0, .slice none 0 0, .int .i64 0, .int .i64 0, .int .i64 0, .int .i64 0, .slice none 0 0], .int .i64 2]) (by simp [results, Try.results12, go_sem, y0, y1, y2, y3, y4, y5, y6, y7, y8]) rfl ⟨rfl, below_put9 hB2 (Nat.le_refl _) _ _ _ _ _ _ _ _ _⟩

set_option maxRecDepth 100000 in
set_option maxHeartbeats 1000000 in
theorem new12_ok (n : Nat) (least : Int) (w : World) (h1 : 1 ≤ n ∧ n ≤ 16) (h2 : 1 ≤ least ∧ least ≤ 32) :
    Calls Try.prog 12 #[.int .i64 (n : Int), .int .i64 least] w fun e w' => ∃ h a c, e = .returned (.tuple #[.agg #[.int .i64 (n : Int), .int .i64 least, .slice (some ⟨h, 0, none⟩) (2 ^ n) (2 ^ n), .slice none 0 0, .int .i64 0, .int .i64 0, .int .i64 1, .int .i64 2, .slice a 16 c], .int .i64 0]) ∧
      w.heap.size ≤ h ∧ (∀ g o, a = some ⟨g, o, none⟩ → w.heap.size ≤ g) ∧ Rd w' (some ⟨h, 0, none⟩) (Ints (List.replicate (2 ^ n) 0)) ∧ Rd w' a (Cts (List.replicate 16 (32768, 0))) ∧ Below w.heap.size w w' := by
  have HW := Lib.hid fun n lo hi W => within12_any n lo hi W
  have HT := Lib.hid fun W => table08_any 16 W (by omega) (by omega)
  rw [table_16.1, table_16.2, ← Cts_fresh] at HT
  have B0 := Blk.new w [.int .i64 0, .int .i64 0, .slice none 0 0, .slice none 0 0, .int .i64 0, .int .i64 0, .int .i64 0, .int .i64 0, .slice none 0 0] 27
  have d1 : decide (1 ≤ (n : Int) ∧ (n : Int) ≤ 16) = true := decide_eq_true (by omega)
  have hps : 2 ^ n ≤ 65536 := Nat.pow_le_pow_right (n := 2) (by omega) (show n ≤ 16 by omega)
  have hsh : IntKind.i64.wrap ((2 : Int) ^ n) = ((2 ^ n : Nat) : Int) := by
    have e : (2 : Int) ^ n = ((2 ^ n : Nat) : Int) := by simp
    rw [e]; exact wrap_i64_nat (by omega)
  obtain ⟨N, hN⟩ : ∃ N, 2 ^ n = N := ⟨_, rfl⟩
  rw [hN] at hsh hps ⊢
  clear hN
  go_enter Try.func12, Try.ntmps12
  go_wp2_with fail
  refine (HW.out _ _ _ _).mono ?_
  rintro e w1 ⟨rfl, hb1⟩
  have hB1 : Below w.heap.size w w1 := below_trans (by go_grown) hb1
  have B1 := B0.step hb1
  clear B0
  rw [d1]
  go_wp2_with fail
  refine (HW.out _ _ _ _).mono ?_
  rintro e w2 ⟨rfl, hb2⟩
  have hB2 : Below w.heap.size w w2 := below_trans hB1 hb2
  have B2 := B1.step hb2
  clear B1
  rw [decide_eq_true h2]
  have lt1 := B2.lt
  go_wp2_with fail
  refine (HT.out _).mono ?_
  rintro e w3 ⟨a, c, rfl, hf3, hr3, hb3⟩
  have hB3 := below_trans hB2 hb3
  have B3 := B2.step hb3
  clear B2
  have Hr3 := Lib.hid hr3
  clear hr3
  obtain ⟨w4, hw4⟩ : ∃ w4, w3.alloc (.cells (List.replicate N (.int .i64 0)).toArray 3) = w4 := ⟨_, rfl⟩
  have hb4 : Below w3.heap.size w3 w4 := by rw [← hw4]; exact (Below.refl _ _).alloc (Nat.le_refl _) _
  have H4 : Blk w4 w3.heap.size (List.replicate N (.int .i64 0)) 3 := by rw [← hw4]; exact Blk.new w3 _ _
  have hB4 := below_trans hB3 hb4
  have B4 := B3.step hb4
  obtain ⟨x0, x1, x2, x3, x4, x5, x6, x7, x8⟩ := B4.nine
  have f0 := B4.free 0
  have f1 := B4.free 1
  have f2 := B4.free 2
  have f3 := B4.free 3
  have f4 := B4.free 4
  have f5 := B4.free 5
  have f6 := B4.free 6
  have f7 := B4.free 7
  have f8 := B4.free 8
  have B5 := B4.put9 (.int .i64 (n : Int)) (.int .i64 least) (.slice (some ⟨w3.heap.size, 0, none⟩) N N) (.slice none 0 0) (.int .i64 0) (.int .i64 0) (.int .i64 1) (.int .i64 2) (.slice a 16 c)
  have hB5 := below_put9 hB4 (Nat.le_refl _) (.int .i64 (n : Int)) (.int .i64 least) (.slice (some ⟨w3.heap.size, 0, none⟩) N N) (.slice none 0 0) (.int .i64 0) (.int .i64 0) (.int .i64 1) (.int .i64 2) (.slice a 16 c)
  obtain ⟨y0, y1, y2, y3, y4, y5, y6, y7, y8⟩ := B5.nine
  go_wp2_with (at_make; refine wpList_value rfl (op_make1 (.tmp 28) 24 3 8 (.int .i64 0) elems_int12 rfl .i64 N (by first | rfl | (show Value.int .i64 (wrap64 _) = _; rw [show wrap64 ((2 : Int) ^ n) = (N : Int) from hsh])) (by omega) (by unfold maxLen; omega)) ?_; rw [hw4]; clear hw4)
  exact bodyPost_ret (v := .tuple #[.agg #[.int .i64 (n : Int), .int .i64 least, .slice (some ⟨w3.heap.size, 0, none⟩) N N, .slice none 0 0, .int .i64 0, .int .i64 0, .int .i64 1, .int .i64 2, .slice a 16 c], .int .i64 0]) (by simp [results, Try.results12, go_sem, y0, y1, y2, y3, y4, y5, y6, y7, y8]) rfl
    ⟨_, _, _, rfl, hB3.size, fun g o e => Nat.le_trans hB2.size (hf3 g o e), Rd.put9 (by rw [Ints_zeros]; exact fun _ => ⟨_, 0, rfl, H4.cells⟩) (fun g o e _ => by cases e; have := hb3.size; omega) _ _ _ _ _ _ _ _ _,
      (Hr3.out.step hb4).put9 (fun g o e _ => by have := hf3 g o e; have := hB2.size; have := lt1; omega) _ _ _ _ _ _ _ _ _, hB5⟩

theorem new12_any (bits least : Int) (w : World) :
    Calls Try.prog 12 #[.int .i64 bits, .int .i64 least] w fun e w' => ∃ p, e = .returned (.tuple #[MV (S12.newM bits least) p, .int .i64 (S12.newE bits least)]) ∧ MIs (S12.newM bits least) p w' ∧ Far w.heap.size p ∧ Below w.heap.size w w' := by
  unfold S12.newM S12.newE
  cases hno : S12.okN bits least with
  | false =>
    refine (new12_bad bits least w hno).mono ?_
    rintro e w' ⟨rfl, hb⟩
    exact ⟨_, rfl, MIs.zero _, Far.none _, hb⟩
  | true =>
    have h := hno
    unfold S12.okN at h
    simp only [Bool.and_eq_true, decide_eq_true_eq] at h
    obtain ⟨n, rfl⟩ : ∃ n : Nat, bits = n := ⟨bits.toNat, by omega⟩
    refine (new12_ok n least w (by omega) h.2).mono ?_
    rintro e w' ⟨g, a, c, rfl, l1, l2, hg, ha, hb⟩
    simp only [if_true, Int.toNat_natCast]
    have hps : 2 ^ n ≤ 65536 := Nat.pow_le_pow_right (n := 2) (by omega) (show n ≤ 16 by omega)
    refine ⟨⟨some ⟨g, 0, none⟩, 2 ^ n, none, 0, a, c⟩, ?_, ⟨hg, Rd.nil _ _, ha, fun _ hx => absurd hx List.not_mem_nil, Nat.le_refl _, by simp; omega, Nat.zero_le _, by simp⟩, ⟨fun _ _ e => by cases e; exact l1, (fun _ _ e => (by cases e)), l2⟩, hb⟩
    simp [MV, MVals]
end Go.Proofs.Ytbfgdaijpcbddaa
