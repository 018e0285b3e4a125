/- A step of layer 10's laws, and the bytes of a slot, walked. No condition. -/
import Derived.Test.YtgbjckjfjoiilaaSpec10b
set_option linter.unusedSimpArgs false
set_option linter.unusedVariables false
set_option linter.unusedSectionVars false
namespace Go.Proofs.Ytgbjckjfjoiilaa
open Go.RowKit

theorem S09.next_found0 : S09.allStates (fun s => S09.found (S09.next s 0)) = true := by decide +kernel
theorem S09.next_found1 : S09.allStates (fun s => S09.found (S09.next s 1)) = true := by decide +kernel
theorem S09.next_range {s : Int} (h : 0 ≤ s ∧ s < 215) {b : Nat} (hb : b < 2) : 0 ≤ S09.next s b ∧ S09.next s b < 215 := by
  obtain ⟨n, rfl⟩ := Int.eq_ofNat_of_zero_le h.1
  have h0 := S09.allStates_spec S09.next_found0 (s := n) (by omega)
  have h1 := S09.allStates_spec S09.next_found1 (s := n) (by omega)
  have e : b = 0 ∨ b = 1 := by omega
  rcases e with rfl | rfl
  · exact S09.found_bounds h0
  · exact S09.found_bounds h1

/-- The table behind a step. -/
def S10.runX (n : Nat) (xs : List Int) (h k b : Nat) : List Int :=
  (S10.openX n xs h).set (16 * S10.openN n xs h + k) (S09.next ((S10.openX n xs h).getD (16 * S10.openN n xs h + k) 0) b)

theorem Good.exists {n : Nat} {xs : List Int} {i k : Nat} (hi : i < 2 ^ n) (h1 : 1 ≤ k) (h2 : k ≤ 15) : S10.exists (n : Int) (i : Int) (k : Int) = true := by
  unfold S10.exists
  rw [Int.toNat_natCast]
  have e : (2 : Int) ^ n = ((2 ^ n : Nat) : Int) := by simp
  rw [e]
  simp only [Bool.and_eq_true, decide_eq_true_eq]
  omega
theorem Good.node {n : Nat} {xs : List Int} (hg : Good n xs) {i k : Nat} (hi : i < 2 ^ n) (h1 : 1 ≤ k) (h2 : k ≤ 15) : S10.node (n : Int) xs (i : Int) (k : Int) = 0 := by
  unfold S10.node
  rw [if_pos hg.check, Good.exists (xs := xs) hi h1 h2]
  rfl
theorem Good.getN {n : Nat} {xs : List Int} (hg : Good n xs) {i k : Nat} (hi : i < 2 ^ n) (h1 : 1 ≤ k) (h2 : k ≤ 15) : S10.getN (n : Int) xs (i : Int) (k : Int) = xs.getD (16 * i + k) 0 := by
  unfold S10.getN
  rw [if_pos (hg.node hi h1 h2), Int.toNat_natCast, Int.toNat_natCast]
theorem Good.setE {n : Nat} {xs : List Int} (hg : Good n xs) {i k : Nat} (hi : i < 2 ^ n) (h1 : 1 ≤ k) (h2 : k ≤ 15) {st : Int} (hs : 0 ≤ st ∧ st < 215) : S10.setE (n : Int) xs (i : Int) (k : Int) st = 0 := by
  unfold S10.setE
  rw [if_pos (hg.node hi h1 h2), if_pos (by omega)]
theorem Good.setB {n : Nat} {xs : List Int} (hg : Good n xs) {i k : Nat} (hi : i < 2 ^ n) (h1 : 1 ≤ k) (h2 : k ≤ 15) {st : Int} (hs : 0 ≤ st ∧ st < 215) : S10.setB (n : Int) xs (i : Int) (k : Int) st = n := by
  unfold S10.setB
  rw [if_pos (hg.setE hi h1 h2 hs)]
theorem Good.setX {n : Nat} {xs : List Int} (hg : Good n xs) {i k : Nat} (hi : i < 2 ^ n) (h1 : 1 ≤ k) (h2 : k ≤ 15) {st : Int} (hs : 0 ≤ st ∧ st < 215) : S10.setX (n : Int) xs (i : Int) (k : Int) st = xs.set (16 * i + k) st := by
  unfold S10.setX
  rw [if_pos (hg.setE hi h1 h2 hs), Int.toNat_natCast, Int.toNat_natCast]
theorem S09.nextS_ok {s : Int} (h : 0 ≤ s ∧ s < 215) {b : Nat} (hb : b < 2) : S09.nextS s b = S09.next s b ∧ S09.nextE s b = 0 := by
  have hf : S09.found s = true := decide_eq_true h
  have e : (b : Int) = 0 ∨ (b : Int) = 1 := by omega
  unfold S09.nextS S09.nextE
  rw [hf, if_pos rfl, if_pos rfl, if_pos e, if_pos e]
  exact ⟨rfl, rfl⟩

/-- What a step is made of. -/
theorem Good.run {n : Nat} {xs : List Int} (hg : Good n xs) {h k b : Nat} (hh : h < 4294967296) (h1 : 1 ≤ k) (h2 : k ≤ 15) (hb : b < 2) :
    Good n (S10.runX n xs h k b) := by
  have hY := hg.openX h hh
  have hi := hg.openN_lt h
  have hl := hY.len
  have hs := hY.st (16 * S10.openN (n : Int) xs h + k) (by omega) (by omega)
  have hr := S09.next_range (s := (S10.openX (n : Int) xs h).getD (16 * S10.openN (n : Int) xs h + k) 0) ⟨(hY.getD _).1, hs⟩ hb
  exact hY.set _ _ ⟨hr.1, by omega⟩ (fun _ => hr.2)

set_option maxRecDepth 100000 in
set_option maxHeartbeats 2000000 in
theorem run10_ok (n : Nat) (xs : List Int) (hg : Good n xs) (h N B k b : Nat) (hh : h < 4294967296) (hN : N < 256) (hB : B < 256) (hk : k = 1 + N % 15) (hb : b = B % 2) (a : Option Addr) (cap : Nat) (w : World) (hT : Tab xs a cap w) :
    Calls Try.prog 29 #[tabV (n : Int) xs a cap, .agg #[.int .u32 (h : Int), .int .u8 (N : Int), .int .u8 (B : Int)]] w fun e w' => ∃ a' cap', e = .returned (.tuple #[tabV (n : Int) (S10.runX n xs h k b) a' cap', .int .i64 (S10.openN n xs h : Int), .bool true]) ∧
      Tab (S10.runX n xs h k b) a' cap' w' ∧ Fr a' w.heap.size ∧ Below w.heap.size w w' := by
  have hY := hg.openX h hh
  have hi := hg.openN_lt h
  have hl := hY.len
  have hk1 : 1 ≤ k := by omega
  have hk2 : k ≤ 15 := by omega
  have hb2 : b < 2 := by omega
  have hs := hY.st (16 * S10.openN (n : Int) xs h + k) (by omega) (by omega)
  have hs0 := (hY.getD (16 * S10.openN (n : Int) xs h + k)).1
  have hr := S09.next_range (s := (S10.openX (n : Int) xs h).getD (16 * S10.openN (n : Int) xs h + k) 0) ⟨hs0, hs⟩ hb2
  have HO := Lib.hid fun W hW => open10_o (n : Int) xs h hh a cap W hW
  have HG := Lib.hid fun a' cap' W hW => get10_any (n : Int) (S10.openX (n : Int) xs h) (S10.openN (n : Int) xs h : Nat) (k : Int) a' cap' W hW
  have HS := Lib.hid fun a' cap' W hW => set10_o (n : Int) (S10.openX (n : Int) xs h) (S10.openN (n : Int) xs h : Nat) (k : Int) (S09.next ((S10.openX (n : Int) xs h).getD (16 * S10.openN (n : Int) xs h + k) 0) b) a' cap' W hW
  rw [hY.getN hi hk1 hk2, hY.node hi hk1 hk2] at HG
  rw [hY.setB hi hk1 hk2 hr, hY.setE hi hk1 hk2 hr, hY.setX hi hk1 hk2 hr] at HS
  rw [hg.openB, hg.check] at HO
  have hx := S09.nextS_ok (s := (S10.openX (n : Int) xs h).getD (16 * S10.openN (n : Int) xs h + k) 0) ⟨hs0, hs⟩ hb2
  have HN := Lib.hid fun W => next09_any ((S10.openX (n : Int) xs h).getD (16 * S10.openN (n : Int) xs h + k) 0) (b : Int) W
  rw [hx.1, hx.2] at HN
  have hR : S10.runX n xs h k b = (S10.openX (n : Int) xs h).set (16 * S10.openN (n : Int) xs h + k) (S09.next ((S10.openX (n : Int) xs h).getD (16 * S10.openN (n : Int) xs h + k) 0) b) := rfl
  rw [← hR] at HS
  obtain ⟨X, hX⟩ : ∃ X, S10.runX n xs h k b = X := ⟨_, rfl⟩
  rw [hX] at HS ⊢
  obtain ⟨st, hst⟩ : ∃ st, (S10.openX (n : Int) xs h).getD (16 * S10.openN (n : Int) xs h + k) 0 = st := ⟨_, rfl⟩
  rw [hst] at HG HS HN
  obtain ⟨nx, hnx⟩ : ∃ nx, S09.next st b = nx := ⟨_, rfl⟩
  rw [hnx] at HS HN
  obtain ⟨i, hi'⟩ : ∃ i, S10.openN (n : Int) xs h = i := ⟨_, rfl⟩
  rw [hi'] at HO HG HS ⊢
  obtain ⟨Y, hYY⟩ : ∃ Y, S10.openX (n : Int) xs h = Y := ⟨_, rfl⟩
  rw [hYY] at HO HG HS
  have ek : 1 + (N : Int) % 15 = (k : Int) := by omega
  have eb : (B : Int) % 2 = (b : Int) := by omega
  clear hY hi hl hs hs0 hr hx hR hX hst hnx hi' hYY hg hk hb
  unfold tabV at *
  obtain ⟨w0, hw0⟩ : ∃ w0, ((w.alloc (Obj.cells #[.int .i64 (n : Int), .slice a xs.length cap] 26)).alloc (Obj.cells #[.int .u32 (h : Int), .int .u8 (N : Int), .int .u8 (B : Int)] 64)).alloc (Obj.cells #[.int .i64 0, .slice none 0 0] 26) = w0 := ⟨_, rfl⟩
  have hB0 : Below w.heap.size w w0 := by rw [← hw0]; go_grown
  have a0 : Blk w0 w.heap.size [.int .i64 (n : Int), .slice a xs.length cap] 26 := by rw [← hw0]; exact ((Blk.new w _ _).alloc _).alloc _
  have b0 : Blk w0 (w.heap.size + 1) [.int .u32 (h : Int), .int .u8 (N : Int), .int .u8 (B : Int)] 64 := by
    have h := (Blk.new (w.alloc (Obj.cells #[.int .i64 (n : Int), .slice a xs.length cap] 26)) [.int .u32 (h : Int), .int .u8 (N : Int), .int .u8 (B : Int)] 64).alloc (Obj.cells #[.int .i64 0, .slice none 0 0] 26)
    rw [← hw0]; simpa using h
  have c0 : Blk w0 (w.heap.size + 1 + 1) [.int .i64 0, .slice none 0 0] 26 := by
    have h := Blk.new ((w.alloc (Obj.cells #[.int .i64 (n : Int), .slice a xs.length cap] 26)).alloc (Obj.cells #[.int .u32 (h : Int), .int .u8 (N : Int), .int .u8 (B : Int)] 64)) [.int .i64 0, .slice none 0 0] 26
    rw [← hw0]; simpa using h
  have p0 := a0.cell 0
  have p1 := a0.cell 1
  have p2 := b0.cell 0
  simp only [List.getElem?_cons_zero, List.getElem?_cons_succ] at p0 p1 p2
  have l0 := c0.lt
  go_enter Try.func29, Try.ntmps29
  go_wp2_with fail
  refine (HO.out _ (hT.step hB0)).mono ?_
  rintro e w1 ⟨a1, c1, rfl, hT1, hF1, hb1⟩
  have hB1 := below_trans hB0 hb1
  have A1 := a0.step hb1
  have B1 := b0.step hb1
  have C1 := c0.step hb1
  have r0 := A1.cell 0
  have r1 := A1.cell 1
  have f0 := A1.free 0
  have f1 := A1.free 1
  have q1 := B1.cell 1
  have A2 := (A1.set 0 (.int .i64 (n : Int))).set 1 (.slice a1 Y.length c1)
  have B2 := (B1.other w.heap.size 0 (.int .i64 (n : Int)) (by omega)).other w.heap.size 1 (.slice a1 Y.length c1) (by omega)
  have C2 := (C1.other w.heap.size 0 (.int .i64 (n : Int)) (by omega)).other w.heap.size 1 (.slice a1 Y.length c1) (by omega)
  have T2 := (hT1.other hF1 w.heap.size 0 (.int .i64 (n : Int)) (by omega)).other hF1 w.heap.size 1 (.slice a1 Y.length c1) (by omega)
  have hB2 := (hB1.setCell (p := ⟨w.heap.size, 0, none⟩) (by simp) (.int .i64 (n : Int))).setCell (p := ⟨w.heap.size, 1, none⟩) (by simp) (.slice a1 Y.length c1)
  simp only [List.set_cons_zero, List.set_cons_succ, List.getElem?_cons_zero, List.getElem?_cons_succ] at r0 r1 q1 A2
  go_wp2_with fail
  refine (HG.out _ _ _ T2).mono ?_
  rintro e w2 ⟨rfl, hb2'⟩
  have hB3 := below_trans hB2 hb2'
  have A3 := A2.step hb2'
  have B3 := B2.step hb2'
  have C3 := C2.step hb2'
  have T3 := T2.step hb2'
  have q2 := B3.cell 2
  simp only [List.getElem?_cons_zero, List.getElem?_cons_succ] at q2
  go_wp2_with fail
  refine (HN.out _).mono ?_
  rintro e w3 ⟨rfl, hb3⟩
  have hB4 := below_trans hB3 hb3
  have A4 := A3.step hb3
  have C4 := C3.step hb3
  have T4 := T3.step hb3
  have s0 := A4.cell 0
  have s1 := A4.cell 1
  simp only [List.getElem?_cons_zero, List.getElem?_cons_succ] at s0 s1
  go_wp2_with fail
  refine (HS.out _ _ _ T4).mono ?_
  rintro e w4 ⟨a4, c4, rfl, hT4, hF4, hb4⟩
  have l4 := C4.lt
  replace hF4 := hF4.mono (show w.heap.size + 1 + 1 + 1 ≤ _ from l4)
  have hB5 := below_trans hB4 hb4
  have A5 := A4.step hb4
  have C5 := C4.step hb4
  have u0 := A5.cell 0
  have u1 := A5.cell 1
  have g0 := A5.free 0
  have g1 := A5.free 1
  have A6 := (A5.set 0 (.int .i64 (n : Int))).set 1 (.slice a4 X.length c4)
  have C6 := (C5.other w.heap.size 0 (.int .i64 (n : Int)) (by omega)).other w.heap.size 1 (.slice a4 X.length c4) (by omega)
  have T6 := (hT4.other hF4 w.heap.size 0 (.int .i64 (n : Int)) (by omega)).other hF4 w.heap.size 1 (.slice a4 X.length c4) (by omega)
  have T7 := (T6.other hF4 (w.heap.size + 1 + 1) 0 (.int .i64 (n : Int)) (by omega)).other hF4 (w.heap.size + 1 + 1) 1 (.slice a4 X.length c4) (by omega)
  have hB6 := (hB5.setCell (p := ⟨w.heap.size, 0, none⟩) (by simp) (.int .i64 (n : Int))).setCell (p := ⟨w.heap.size, 1, none⟩) (by simp) (.slice a4 X.length c4)
  have hB7 := (hB6.setCell (p := ⟨w.heap.size + 1 + 1, 0, none⟩) (by simp; omega) (.int .i64 (n : Int))).setCell (p := ⟨w.heap.size + 1 + 1, 1, none⟩) (by simp; omega) (.slice a4 X.length c4)
  have v0 := C5.cell 0
  have v1 := C5.cell 1
  have h0 := C5.free 0
  have h1 := C5.free 1
  have C7 := (C6.set 0 (.int .i64 (n : Int))).set 1 (.slice a4 X.length c4)
  have o0 := C7.cell 0
  have o1 := C7.cell 1
  simp only [List.set_cons_zero, List.set_cons_succ, List.getElem?_cons_zero, List.getElem?_cons_succ] at u0 u1 v0 v1 o0 o1
  have HT7 := Lib.hid T7
  have HB7 := Lib.hid hB7
  clear T2 T3 T4 T6 T7 A1 A2 A3 A4 A5 A6 B1 B2 B3 C1 C2 C3 C4 C5 C6 C7 hB2 hB6 hB7 r0 r1 f0 f1 q1 q2 s0 s1 p0 p1 p2
  go_wp2
  refine bodyPost_ret (v := .tuple #[.agg #[.int .i64 (n : Int), .slice a4 X.length c4], .int .i64 (i : Int), .bool true]) (by simp [results, Try.results29, go_sem, o0, o1]) rfl ⟨a4, c4, rfl, HT7.out, hF4.mono (by omega), HB7.out⟩
end Go.Proofs.Ytgbjckjfjoiilaa
