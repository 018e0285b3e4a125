/- The walk of mix (layer 13). No condition. -/
import Derived.Test.YtkpkkbpfcchgaaaW13f
import Derived.Test.YtkpkkbpfcchgaaaW06r
set_option linter.unusedSimpArgs false
set_option linter.unusedVariables false
set_option linter.unusedSectionVars false
namespace Go.Proofs.Ytkpkkbpfcchgaaa
open Go.RowKit

/-- The mixed evidence. -/
def S13.mix (ws xs : List Int) : Int := S06.clip (S06.round (S13.sum ws xs) 65536)
/-- Weights and inputs in their ranges. -/
def S13.fits (ws xs : List Int) : Prop := ws.length = xs.length ∧ xs.length ≤ 16 ∧ (∀ x ∈ ws, -1048576 ≤ x ∧ x ≤ 1048576) ∧ ∀ x ∈ xs, -3071 ≤ x ∧ x ≤ 3071
theorem S13.sum_snoc : ∀ (ws xs : List Int) (u v : Int), ws.length = xs.length → S13.sum (ws ++ [u]) (xs ++ [v]) = S13.sum ws xs + u * v
  | [], [], u, v, _ => by simp [S13.sum]
  | a :: ws, b :: xs, u, v, h => by
    simp only [List.cons_append, S13.sum]
    rw [S13.sum_snoc ws xs u v (by simpa using h)]; omega
theorem S13.getD_take (xs : List Int) {k : Nat} (h : k < xs.length) : xs.take (k + 1) = xs.take k ++ [xs.getD k 0] := by
  rw [List.take_succ_eq_append_getElem h, List.getD_eq_getElem?_getD, List.getElem?_eq_getElem h]; rfl
theorem S13.sum_take {ws xs : List Int} (hl : ws.length = xs.length) {k : Nat} (h : k < xs.length) :
    S13.sum (ws.take (k + 1)) (xs.take (k + 1)) = S13.sum (ws.take k) (xs.take k) + ws.getD k 0 * xs.getD k 0 := by
  rw [S13.getD_take xs h, S13.getD_take ws (by omega)]
  exact S13.sum_snoc _ _ _ _ (by simp; omega)
theorem S13.getD_mem {P : Int → Prop} {xs : List Int} (h : ∀ x ∈ xs, P x) {k : Nat} (hk : k < xs.length) : P (xs.getD k 0) := by
  rw [List.getD_eq_getElem?_getD, List.getElem?_eq_getElem hk]
  exact h _ (List.getElem_mem hk)
theorem S13.mul_abs {a b A B : Int} (h1 : -A ≤ a) (h2 : a ≤ A) (h3 : -B ≤ b) (h4 : b ≤ B) : -(A * B) ≤ a * b ∧ a * b ≤ A * B := by
  have hA : 0 ≤ A := by omega
  have hB : 0 ≤ B := by omega
  rcases Int.le_total 0 a with ha | ha <;> rcases Int.le_total 0 b with hb | hb
  · have := Int.mul_le_mul h2 h4 hb hA
    have := Int.mul_nonneg ha hb
    have := Int.mul_nonneg hA hB
    omega
  · have := Int.mul_le_mul h2 (show -b ≤ B by omega) (by omega) hA
    have h5 := Int.mul_nonneg ha (show 0 ≤ -b by omega)
    rw [Int.mul_neg] at *
    have := Int.mul_nonneg hA hB
    omega
  · have := Int.mul_le_mul (show -a ≤ A by omega) h4 hb hA
    have h5 := Int.mul_nonneg (show 0 ≤ -a by omega) hb
    rw [Int.neg_mul] at *
    have := Int.mul_nonneg hA hB
    omega
  · have := Int.mul_le_mul (show -a ≤ A by omega) (show -b ≤ B by omega) (by omega) hA
    have h5 := Int.mul_nonneg (show 0 ≤ -a by omega) (show 0 ≤ -b by omega)
    rw [Int.neg_mul_neg] at *
    have := Int.mul_nonneg hA hB
    omega
theorem S13.term {ws xs : List Int} (h : S13.fits ws xs) {k : Nat} (hk : k < xs.length) : -3220176896 ≤ ws.getD k 0 * xs.getD k 0 ∧ ws.getD k 0 * xs.getD k 0 ≤ 3220176896 := by
  obtain ⟨h1, h2, h3, h4⟩ := h
  have a := S13.getD_mem (P := fun x => -1048576 ≤ x ∧ x ≤ 1048576) h3 (k := k) (by omega)
  have b := S13.getD_mem (P := fun x => -3071 ≤ x ∧ x ≤ 3071) h4 hk
  exact S13.mul_abs (A := 1048576) (B := 3071) a.1 a.2 b.1 b.2
theorem S13.sum_bounds {ws xs : List Int} (h : S13.fits ws xs) : ∀ k : Nat, k ≤ xs.length → -3220176896 * (k : Int) ≤ S13.sum (ws.take k) (xs.take k) ∧ S13.sum (ws.take k) (xs.take k) ≤ 3220176896 * (k : Int)
  | 0, _ => by simp [S13.sum]
  | k + 1, hk => by
    have ih := S13.sum_bounds h k (by omega)
    have t := S13.term h (k := k) (by omega)
    rw [S13.sum_take h.1 (by omega)]
    omega

theorem step13_any (i wt xt s : Int) (b : Nat) (w : World) (hb : Blk w b [.int .i64 s] 3) (h1 : -9000000000000 ≤ wt * xt) (h2 : wt * xt ≤ 9000000000000) (h3 : -9000000000000 ≤ s) (h4 : s ≤ 9000000000000) :
    Calls Try.prog 43 #[.int .i64 i, .int .i64 wt, .int .i64 xt, .pointer (some ⟨b, 0, none⟩)] w fun e w' => e = .returned (.tuple #[]) ∧ w' = w.setCell ⟨b, 0, none⟩ (.int .i64 (s + wt * xt)) := by
  have w1' : IntKind.i64.wrap (wt * xt) = wt * xt := IntWalk.i64_in _ (by omega)
  have w2' : IntKind.i64.wrap (s + wt * xt) = s + wt * xt := IntWalk.i64_in _ (by omega)
  have c0 := hb.cell 0
  have f0 := hb.free 0
  simp only [List.getElem?_cons_zero] at c0
  go_enter Try.func43, Try.ntmps43
  go_wp2
  go_returns
  exact ⟨rfl, rfl⟩

theorem enterMix (a b c p : Value) (w : World) : (callFunc 43 #[a, b, c, p]).run Try.prog w = .ok (.enter 43 #[a, b, c, p]) w := by kernel_rfl

set_option maxHeartbeats 1000000 in
theorem mix13_any (ws xs : List Int) (aw ax : Option Addr) (cw cx : Nat) (w : World) (hf : S13.fits ws xs) (hne : 1 ≤ xs.length) (hrw : Rd w aw (Ints ws)) (hrx : Rd w ax (Ints xs)) :
    Calls Try.prog 30 #[.slice aw xs.length cw, .slice ax xs.length cx] w fun e w' => e = .returned (.int .i64 (S13.mix ws xs)) ∧ Below w.heap.size w w' := by
  obtain ⟨gw, ow, rfl, hcw⟩ := hrw.at (i := 0) (by rw [Ints_length, hf.1]; omega)
  obtain ⟨gx, ox, rfl, hcx⟩ := hrx.at (i := 0) (by rw [Ints_length]; omega)
  have hl := hf.1
  have hl2 := hf.2.1
  have hsb := S13.sum_bounds hf
  have cells : ∀ k W, k < xs.length → Below w.heap.size w W → W.cell? ⟨gw, ow + k, none⟩ = some (.int .i64 (ws.getD k 0)) ∧ W.cell? ⟨gx, ox + k, none⟩ = some (.int .i64 (xs.getD k 0)) := by
    intro k W hk hB
    have e1 := hcw k (by rw [Ints_length]; omega)
    have e2 := hcx k (by rw [Ints_length]; omega)
    rw [(hB.cell (block_lt_of_cell e1)).trans e1, (hB.cell (block_lt_of_cell e2)).trans e2]
    simp [Ints, List.getD_eq_getElem?_getD, List.getElem?_eq_getElem hk, List.getElem?_eq_getElem (show k < ws.length by omega)]
  have HV := Lib.hid fun W h0 => visit13_any 43 #[.pointer (some ⟨w.heap.size, 0, none⟩)] (fun a b c W => enterMix a b c _ W) xs.length gw ow cw gx ox cx (fun k => ws.getD k 0) (fun k => xs.getD k 0)
    (fun k W => Blk W w.heap.size [.int .i64 (S13.sum (ws.take k) (xs.take k))] 3 ∧ Below w.heap.size w W) (fun k W W' h hb => ⟨h.1.step hb, below_trans h.2 hb⟩) (fun k W hk h => cells k W hk h.2)
    (fun k W hk h => by
      have t := S13.term hf hk
      have s := hsb k (by omega)
      have e := S13.sum_take hl hk
      refine (step13_any k (ws.getD k 0) (xs.getD k 0) (S13.sum (ws.take k) (xs.take k)) w.heap.size W h.1 (by omega) (by omega) (by omega) (by omega)).mono ?_
      rintro e' w' ⟨rfl, rfl⟩
      refine ⟨rfl, ⟨?_, h.2.setCell (Nat.le_refl _) _⟩, fun b cs hb => ?_⟩
      · rw [e]; exact h.1.set 0 _
      · refine hb.other _ _ _ fun he => ?_
        subst he
        have h1 := h.1
        unfold Blk at hb h1
        rw [h1] at hb
        simp at hb)
    W (by omega) h0
  have hall := hsb xs.length (Nat.le_refl _)
  rw [List.take_length, ← hl, List.take_length] at hall
  have HR := Lib.hid fun W => round06_any (S13.sum ws xs) 65536 W (by omega) (by omega) (by omega) (by omega)
  have HC := Lib.hid fun W => clip06_any (S06.round (S13.sum ws xs) 65536) W
  have hm : S13.mix ws xs = S06.clip (S06.round (S13.sum ws xs) 65536) := rfl
  have hb0 := Blk.new w [.int .i64 0] 3
  have f0 := hb0.free 0
  have HI := Lib.hid (show Blk (w.alloc (Obj.cells #[.int .i64 0] 3)) w.heap.size [.int .i64 (S13.sum (ws.take 0) (xs.take 0))] 3 ∧ Below w.heap.size w (w.alloc (Obj.cells #[.int .i64 0] 3)) from ⟨by simpa [S13.sum] using hb0, (Below.refl _ _).alloc (Nat.le_refl _) _⟩)
  have htl : xs.take xs.length = xs := List.take_length
  have htw : ws.take xs.length = ws := by rw [← hl, List.take_length]
  simp only [htl, htw] at HV
  rw [hm]
  clear hm hcw hcx cells hsb hall hb0 f0 htl htw hrw hrx
  generalize S06.clip (S06.round (S13.sum ws xs) 65536) = q at *
  generalize S06.round (S13.sum ws xs) 65536 = r at *
  generalize xs.length = n at *
  go_enter Try.func30, Try.ntmps30
  go_wp2_with fail
  refine (HV.out _ HI.out).mono ?_
  rintro e w1 ⟨rfl, hs1, hB1⟩
  have c1 := hs1.cell 0
  simp only [List.getElem?_cons_zero] at c1
  have z1 := hs1.lt
  clear hs1
  go_wp2_with fail
  refine (HR.out _).mono ?_
  rintro e w2 ⟨rfl, hb2⟩
  have hB2 : Below w.heap.size w w2 := below_trans (by go_grown) hb2
  have z2 : w.heap.size ≤ w2.heap.size := hB2.size
  go_wp2_with fail
  refine (HC.out _).mono ?_
  rintro e w3 ⟨rfl, hb3⟩
  have hB3 : Below w.heap.size w w3 := below_trans (by go_grown) hb3
  have z3 : w.heap.size ≤ w3.heap.size := hB3.size
  go_wp2
  go_returns
  exact ⟨rfl, hB3⟩
end Go.Proofs.Ytkpkkbpfcchgaaa
