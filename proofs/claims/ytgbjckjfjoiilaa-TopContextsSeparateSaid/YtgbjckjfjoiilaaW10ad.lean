/- The examples of layer 10's laws: what they compute. The laws SlotsReads, SlotsOpens, SlotsWrites and SlotsMakes, walked. The laws SlotsWrites and SlotsMakes, walked. No condition. -/
import Derived.Test.YtgbjckjfjoiilaaW10aa
set_option linter.unusedSimpArgs false
set_option linter.unusedVariables false
set_option linter.unusedSectionVars false
namespace Go.Proofs.Ytgbjckjfjoiilaa
open Go.RowKit

def aw0 : List Int := S10.newX 2
def aw1 : List Int := S10.openX 2 aw0 83886083
def aw2 : List Int := S10.setX 2 aw1 3 1 1
def aw3 : List Int := S10.openX 2 aw2 100663299
theorem aw_new : S10.newE 2 = 0 ∧ S10.newB 2 = 2 := ⟨rfl, rfl⟩
theorem aw_c0 : S10.check 2 aw0 = 0 := by kernel_rfl
theorem aw_b0 : S10.openB 2 aw0 = 2 := by kernel_rfl
theorem aw_n0 : S10.openN 2 aw0 83886083 = 3 := by kernel_rfl
theorem aw_c1 : S10.check 2 aw1 = 0 := by kernel_rfl
theorem aw_n1 : S10.openN 2 aw1 100663299 = 3 := by kernel_rfl
theorem aw_e1 : S10.setE 2 aw1 3 1 1 = 0 := by kernel_rfl
theorem aw_b1 : S10.setB 2 aw1 3 1 1 = 2 := by kernel_rfl
theorem aw_c2 : S10.check 2 aw2 = 0 := by kernel_rfl
theorem aw_b2 : S10.openB 2 aw2 = 2 := by kernel_rfl
theorem aw_n2 : S10.openN 2 aw2 100663299 = 2 := by kernel_rfl
theorem aw_f3 : S10.findN 2 aw3 83886083 = 3 := by kernel_rfl
theorem aw_g3 : S10.findB 2 aw3 83886083 = true := by kernel_rfl
theorem aw_f4 : S10.findN 2 aw3 1 = 1 := by kernel_rfl
theorem aw_g4 : S10.findB 2 aw3 1 = true := by kernel_rfl

theorem few10_any (bits : Int) (xs : List Int) (a : Option Addr) (cap : Nat) (w : World) :
    Calls Try.prog 15 #[tabV bits xs a cap] w fun e w' => e = .returned (.bool (decide ((xs.length : Int) ≤ 1100) && (decide (bits ≤ 6) || decide (60 < bits)))) ∧ Below w.heap.size w w' := by
  unfold tabV
  by_cases h1 : (xs.length : Int) ≤ 1100
  · by_cases h2 : bits ≤ 6
    · go_enter Try.func15, Try.ntmps15
      go_wp2
      go_returns
      exact ⟨by first | (simp [h1, h2]; done) | (simp [h1, h2]; omega), by go_grown⟩
    · go_enter Try.func15, Try.ntmps15
      go_wp2
      go_returns
      exact ⟨by first | (simp [h1, h2]; done) | (simp [h1, h2]; omega), by go_grown⟩
  · go_enter Try.func15, Try.ntmps15
    go_wp2
    go_returns
    exact ⟨by first | (simp [h1]; done) | (simp [h1]; omega), by go_grown⟩

theorem open10_at (bits : Int) (xs : List Int) (h : Nat) (z : Int) (hz : (h : Int) = z) (hh : h < 4294967296) (n : Nat) (B : Int) (ys : List Int) (hn : S10.openN bits xs h = n) (hB : S10.openB bits xs = B) (hX : S10.openX bits xs h = ys) (hc : S10.check bits xs = 0) (a : Option Addr) (cap : Nat) (w : World) (hT : Tab xs a cap w) :
    Calls Try.prog 23 #[tabV bits xs a cap, .int .u32 z] w fun e w' => ∃ a' cap', e = .returned (.tuple #[tabV B ys a' cap', .int .i64 (n : Int), .int .i64 0]) ∧ Tab ys a' cap' w' ∧ Fr a' w.heap.size ∧ Below w.heap.size w w' := by
  subst hz hn hB hX
  refine (open10_any bits xs h hh a cap w hT).mono ?_
  rintro e w' ⟨V, rfl, hV, hb⟩
  obtain ⟨a', cap', rfl, hT', hf'⟩ := hV.open (OK8.openX hT.ok bits h hh)
  exact ⟨a', cap', by rw [hc], hT', hf', hb⟩
theorem set10_at (bits : Int) (xs : List Int) (n k st : Int) (B : Int) (ys : List Int) (hB : S10.setB bits xs n k st = B) (hX : S10.setX bits xs n k st = ys) (hc : S10.setE bits xs n k st = 0) (a : Option Addr) (cap : Nat) (w : World) (hT : Tab xs a cap w) :
    Calls Try.prog 25 #[tabV bits xs a cap, .int .i64 n, .int .i64 k, .int .i64 st] w fun e w' => ∃ a' cap', e = .returned (.tuple #[tabV B ys a' cap', .int .i64 0]) ∧ Tab ys a' cap' w' ∧ Fr a' w.heap.size ∧ Below w.heap.size w w' := by
  subst hB hX
  refine (set10_any bits xs n k st a cap w hT).mono ?_
  rintro e w' ⟨V, rfl, hV, hb⟩
  obtain ⟨a', cap', rfl, hT', hf'⟩ := hV.open (OK8.setX hT.ok bits n k st)
  exact ⟨a', cap', by rw [hc], hT', hf', hb⟩
theorem find10_at (bits : Int) (xs : List Int) (h : Nat) (z : Int) (hz : (h : Int) = z) (hh : h < 4294967296) (n : Nat) (q : Bool) (hn : S10.findN bits xs h = n) (hq : S10.findB bits xs h = q) (a : Option Addr) (cap : Nat) (w : World) (hT : Tab xs a cap w) :
    Calls Try.prog 21 #[tabV bits xs a cap, .int .u32 z] w fun e w' => e = .returned (.tuple #[.int .i64 (n : Int), .bool q]) ∧ Below w.heap.size w w' := by
  subst hz hn hq
  exact Find10_any bits xs h hh a cap w hT
theorem new10_at (bits : Int) (B : Int) (ys : List Int) (hB : S10.newB bits = B) (hX : S10.newX bits = ys) (hc : S10.newE bits = 0) (w : World) :
    Calls Try.prog 13 #[.int .i64 bits] w fun e w' => ∃ a' cap', e = .returned (.tuple #[tabV B ys a' cap', .int .i64 0]) ∧ Tab ys a' cap' w' ∧ Fr a' w.heap.size ∧ Below w.heap.size w w' := by
  subst hB hX
  refine (new10_any bits w).mono ?_
  rintro e w' ⟨V, rfl, hV, hb⟩
  obtain ⟨a', cap', rfl, hT', hf'⟩ := hV.open (OK8.newX bits)
  exact ⟨a', cap', by rw [hc], hT', hf', hb⟩

set_option maxRecDepth 100000 in
set_option maxHeartbeats 2000000 in
theorem awake10_any (w : World) : Calls Try.prog 16 #[] w fun e w' => e = .returned (.bool true) ∧ Below w.heap.size w w' := by
  have H0 := Lib.hid fun W => new10_at 2 2 aw0 aw_new.2 rfl aw_new.1 W
  have H1 := Lib.hid fun a cap W h => open10_at 2 aw0 83886083 83886083 rfl (by decide) 3 2 aw1 aw_n0 aw_b0 rfl aw_c0 a cap W h
  have H2 := Lib.hid fun a cap W h => open10_at 2 aw1 100663299 100663299 rfl (by decide) 3 _ _ aw_n1 rfl rfl aw_c1 a cap W h
  have H3 := Lib.hid fun a cap W h => set10_at 2 aw1 3 1 1 2 aw2 aw_b1 rfl aw_e1 a cap W h
  have H4 := Lib.hid fun a cap W h => open10_at 2 aw2 100663299 100663299 rfl (by decide) 2 2 aw3 aw_n2 aw_b2 rfl aw_c2 a cap W h
  have H5 := Lib.hid fun a cap W h => find10_at 2 aw3 83886083 83886083 rfl (by decide) 3 true aw_f3 aw_g3 a cap W h
  have H6 := Lib.hid fun a cap W h => find10_at 2 aw3 1 1 rfl (by decide) 1 true aw_f4 aw_g4 a cap W h
  obtain ⟨B2, eB2⟩ : ∃ x, S10.openB 2 aw1 = x := ⟨_, rfl⟩
  obtain ⟨X2, eX2⟩ : ∃ x, S10.openX 2 aw1 100663299 = x := ⟨_, rfl⟩
  rw [eB2, eX2] at H2
  clear eB2 eX2
  obtain ⟨x0, e0⟩ : ∃ x, aw0 = x := ⟨_, rfl⟩
  obtain ⟨x1, e1⟩ : ∃ x, aw1 = x := ⟨_, rfl⟩
  obtain ⟨x2, e2⟩ : ∃ x, aw2 = x := ⟨_, rfl⟩
  obtain ⟨x3, e3⟩ : ∃ x, aw3 = x := ⟨_, rfl⟩
  rw [e0] at H0 H1
  rw [e1] at H1 H2 H3
  rw [e2] at H3 H4
  rw [e3] at H4 H5 H6
  clear e0 e1 e2 e3
  unfold tabV at *
  go_enter Try.func16, Try.ntmps16
  go_wp2_with fail
  refine (H0.out _).mono ?_
  rintro e w1 ⟨a1, c1, rfl, hT1, hF1, hb1⟩
  obtain ⟨S, hS⟩ : ∃ S, w1.heap.size = S := ⟨_, rfl⟩
  have hSw : w.heap.size ≤ S := by have := hb1.size; omega
  have A1 := (Blk.new w1 [.int .i64 2, .slice a1 x0.length c1] 26)
  rw [hS] at A1
  have hz1 : (w1.alloc (Obj.cells #[.int .i64 2, .slice a1 x0.length c1] 26)).heap.size = S + 1 := by simp [hS]
  have hBa : Below w.heap.size w (w1.alloc (Obj.cells #[.int .i64 2, .slice a1 x0.length c1] 26)) := hb1.alloc hb1.size _
  go_wp2_with fail
  refine (H1.out _ _ _ (hT1.alloc _)).mono ?_
  rintro e w2 ⟨a2, c2, rfl, hT2, hF2, hb2⟩
  rw [hz1] at hF2
  have hB2 := below_trans hBa hb2
  have A2 := A1.step hb2
  have r0 := A2.cell 0
  have r1 := A2.cell 1
  have f0 := A2.free 0
  have f1 := A2.free 1
  have A3 := (A2.set 0 (.int .i64 2)).set 1 (.slice a2 x1.length c2)
  have T3 := (hT2.other hF2 S 0 (.int .i64 2) (by omega)).other hF2 S 1 (.slice a2 x1.length c2) (by omega)
  have hB3 := (hB2.setCell (p := ⟨S, 0, none⟩) hSw (.int .i64 2)).setCell (p := ⟨S, 1, none⟩) hSw (.slice a2 x1.length c2)
  simp only [List.set_cons_zero, List.set_cons_succ, List.getElem?_cons_zero, List.getElem?_cons_succ] at r0 r1 A3
  go_wp2_with fail
  refine (H2.out _ _ _ T3).mono ?_
  rintro e w3 ⟨a3, c3, rfl, hT3, hF3, hb3⟩
  have hB4 := below_trans hB3 hb3
  have A4 := A3.step hb3
  have T4 := T3.step hb3
  have l4 := A4.lt
  have k40 := A4.cell 0
  have k41 := A4.cell 1
  simp only [List.getElem?_cons_zero, List.getElem?_cons_succ] at k40 k41
  have A5 := A4.alloc (Obj.cells #[.int .i64 B2, .slice a3 X2.length c3] 26)
  have hB5 : Below w.heap.size w (w3.alloc (Obj.cells #[.int .i64 B2, .slice a3 X2.length c3] 26)) := hB4.alloc hB4.size _
  go_wp2_with fail
  refine (H3.out _ _ _ (T4.alloc _)).mono ?_
  rintro e w4 ⟨a4, c4, rfl, hT4, hF4, hb4⟩
  replace hF4 := hF4.mono (show S + 1 ≤ (w3.alloc (Obj.cells #[.int .i64 B2, .slice a3 X2.length c3] 26)).heap.size by simp; omega)
  replace hB4 := below_trans hB5 hb4
  have A6 := A5.step hb4
  have r40 := A6.cell 0
  have r41 := A6.cell 1
  have f40 := A6.free 0
  have f41 := A6.free 1
  have A6s := (A6.set 0 (.int .i64 2)).set 1 (.slice a4 x2.length c4)
  have T6s := (hT4.other hF4 S 0 (.int .i64 2) (by omega)).other hF4 S 1 (.slice a4 x2.length c4) (by omega)
  have hB6s := (hB4.setCell (p := ⟨S, 0, none⟩) hSw (.int .i64 2)).setCell (p := ⟨S, 1, none⟩) hSw (.slice a4 x2.length c4)
  simp only [List.set_cons_zero, List.set_cons_succ, List.getElem?_cons_zero, List.getElem?_cons_succ] at r40 r41 A6s
  go_wp2_with fail
  refine (H4.out _ _ _ T6s).mono ?_
  rintro e w5 ⟨a5, c5, rfl, hT5, hF5, hb5⟩
  have l6 := A6s.lt
  replace hF5 := hF5.mono (show S + 1 ≤ _ from l6)
  replace hB5 := below_trans hB6s hb5
  have A7 := A6s.step hb5
  have r50 := A7.cell 0
  have r51 := A7.cell 1
  have f50 := A7.free 0
  have f51 := A7.free 1
  have A7s := (A7.set 0 (.int .i64 2)).set 1 (.slice a5 x3.length c5)
  have T7s := (hT5.other hF5 S 0 (.int .i64 2) (by omega)).other hF5 S 1 (.slice a5 x3.length c5) (by omega)
  have hB7s := (hB5.setCell (p := ⟨S, 0, none⟩) hSw (.int .i64 2)).setCell (p := ⟨S, 1, none⟩) hSw (.slice a5 x3.length c5)
  simp only [List.set_cons_zero, List.set_cons_succ, List.getElem?_cons_zero, List.getElem?_cons_succ] at r50 r51 A7s
  clear r40 r41 f40 f41 k40 k41 r0 r1 f0 f1
  go_wp2_with fail
  refine (H5.out _ _ _ T7s).mono ?_
  rintro e w6 ⟨rfl, hb6⟩
  have hB8 := below_trans hB7s hb6
  have A8 := A7s.step hb6
  have T8 := T7s.step hb6
  have k80 := A8.cell 0
  have k81 := A8.cell 1
  simp only [List.getElem?_cons_zero, List.getElem?_cons_succ] at k80 k81
  go_wp2_with fail
  refine (H6.out _ _ _ T8).mono ?_
  rintro e w7 ⟨rfl, hb7⟩
  have hB9 := below_trans hB8 hb7
  go_wp2
  go_returns
  exact ⟨rfl, hB9⟩
end Go.Proofs.Ytgbjckjfjoiilaa

namespace Go.Proofs.Ytgbjckjfjoiilaa
open Go.RowKit

theorem same10_eq (B : Int) (Y : List Int) (a b : Option Addr) (c d : Nat) (w : World) (hx : Rd w a (Bts Y)) (hy : Rd w b (Bts Y)) :
    Calls Try.prog 18 #[tabV B Y a c, tabV B Y b d] w fun e w' => e = .returned (.bool true) ∧ Below w.heap.size w w' := by
  refine (same10_any B B Y Y a b c d w hx hy).mono ?_
  rintro e w' ⟨rfl, hb⟩
  exact ⟨by simp, hb⟩
theorem open10_o (bits : Int) (xs : List Int) (hash : Nat) (hh : hash < 4294967296) (a : Option Addr) (cap : Nat) (w : World) (hT : Tab xs a cap w) :
    Calls Try.prog 23 #[tabV bits xs a cap, .int .u32 (hash : Int)] w fun e w' => ∃ a' cap', e = .returned (.tuple #[tabV (S10.openB bits xs) (S10.openX bits xs hash) a' cap', .int .i64 (S10.openN bits xs hash : Int), .int .i64 (S10.check bits xs)]) ∧ Tab (S10.openX bits xs hash) a' cap' w' ∧ Fr a' w.heap.size ∧ Below w.heap.size w w' := by
  refine (open10_any bits xs hash hh a cap w hT).mono ?_
  rintro e w' ⟨V, rfl, hV, hb⟩
  obtain ⟨a', cap', rfl, hT', hf⟩ := hV.open (OK8.openX hT.ok bits hash hh)
  exact ⟨a', cap', rfl, hT', hf, hb⟩
theorem ropen10_o (bits : Int) (xs : List Int) (hash : Nat) (hh : hash < 4294967296) (a : Option Addr) (cap : Nat) (w : World) (hT : Tab xs a cap w) :
    Calls Try.prog 24 #[tabV bits xs a cap, .int .u32 (hash : Int)] w fun e w' => ∃ a' cap', e = .returned (.tuple #[tabV (S10.openB bits xs) (S10.openX bits xs hash) a' cap', .int .i64 (S10.openN bits xs hash : Int), .int .i64 (S10.check bits xs)]) ∧ Tab (S10.openX bits xs hash) a' cap' w' ∧ Fr a' w.heap.size ∧ Below w.heap.size w w' := by
  refine (ropen10_any bits xs hash hh a cap w hT).mono ?_
  rintro e w' ⟨V, rfl, hV, hb⟩
  obtain ⟨a', cap', rfl, hT', hf⟩ := hV.open (OK8.openX hT.ok bits hash hh)
  exact ⟨a', cap', rfl, hT', hf, hb⟩
theorem set10_o (bits : Int) (xs : List Int) (n k st : Int) (a : Option Addr) (cap : Nat) (w : World) (hT : Tab xs a cap w) :
    Calls Try.prog 25 #[tabV bits xs a cap, .int .i64 n, .int .i64 k, .int .i64 st] w fun e w' => ∃ a' cap', e = .returned (.tuple #[tabV (S10.setB bits xs n k st) (S10.setX bits xs n k st) a' cap', .int .i64 (S10.setE bits xs n k st)]) ∧ Tab (S10.setX bits xs n k st) a' cap' w' ∧ Fr a' w.heap.size ∧ Below w.heap.size w w' := by
  refine (set10_any bits xs n k st a cap w hT).mono ?_
  rintro e w' ⟨V, rfl, hV, hb⟩
  obtain ⟨a', cap', rfl, hT', hf⟩ := hV.open (OK8.setX hT.ok bits n k st)
  exact ⟨a', cap', rfl, hT', hf, hb⟩
theorem rset10_o (bits : Int) (xs : List Int) (n k st : Int) (a : Option Addr) (cap : Nat) (w : World) (hT : Tab xs a cap w) :
    Calls Try.prog 26 #[tabV bits xs a cap, .int .i64 n, .int .i64 k, .int .i64 st] w fun e w' => ∃ a' cap', e = .returned (.tuple #[tabV (S10.setB bits xs n k st) (S10.setX bits xs n k st) a' cap', .int .i64 (S10.setE bits xs n k st)]) ∧ Tab (S10.setX bits xs n k st) a' cap' w' ∧ Fr a' w.heap.size ∧ Below w.heap.size w w' := by
  refine (rset10_any bits xs n k st a cap w hT).mono ?_
  rintro e w' ⟨V, rfl, hV, hb⟩
  obtain ⟨a', cap', rfl, hT', hf⟩ := hV.open (OK8.setX hT.ok bits n k st)
  exact ⟨a', cap', rfl, hT', hf, hb⟩
theorem new10_o (bits : Int) (w : World) :
    Calls Try.prog 13 #[.int .i64 bits] w fun e w' => ∃ a' cap', e = .returned (.tuple #[tabV (S10.newB bits) (S10.newX bits) a' cap', .int .i64 (S10.newE bits)]) ∧ Tab (S10.newX bits) a' cap' w' ∧ Fr a' w.heap.size ∧ Below w.heap.size w w' := by
  refine (new10_any bits w).mono ?_
  rintro e w' ⟨V, rfl, hV, hb⟩
  obtain ⟨a', cap', rfl, hT', hf⟩ := hV.open (OK8.newX bits)
  exact ⟨a', cap', rfl, hT', hf, hb⟩
theorem rnew10_o (bits : Int) (w : World) :
    Calls Try.prog 17 #[.int .i64 bits] w fun e w' => ∃ a' cap', e = .returned (.tuple #[tabV (S10.newB bits) (S10.newX bits) a' cap', .int .i64 (S10.newE bits)]) ∧ Tab (S10.newX bits) a' cap' w' ∧ Fr a' w.heap.size ∧ Below w.heap.size w w' := by
  refine (rnew10_any bits w).mono ?_
  rintro e w' ⟨V, rfl, hV, hb⟩
  obtain ⟨a', cap', rfl, hT', hf⟩ := hV.open (OK8.newX bits)
  exact ⟨a', cap', rfl, hT', hf, hb⟩

set_option maxHeartbeats 1000000 in
theorem slotsReads_any (bits : Int) (xs : List Int) (n k : Int) (a : Option Addr) (cap : Nat) (w : World) (hT : Tab xs a cap w) :
    Calls Try.prog 7 #[tabV bits xs a cap, .int .i64 n, .int .i64 k] w fun e w' => e = .returned (.bool true) ∧ Below w.heap.size w w' := by
  have HF := Lib.hid fun W => few10_any bits xs a cap W
  have HA := Lib.hid awake10_any
  have HG := Lib.hid fun W h => get10_any bits xs n k a cap W h
  have HR := Lib.hid fun W h => rget10_any bits xs n k a cap W h
  obtain ⟨q, hq⟩ : ∃ q, (decide ((xs.length : Int) ≤ 1100) && (decide (bits ≤ 6) || decide (60 < bits))) = q := ⟨_, rfl⟩
  obtain ⟨g, hg⟩ : ∃ g, S10.getN bits xs n k = g := ⟨_, rfl⟩
  obtain ⟨e, he⟩ : ∃ e, S10.node bits xs n k = e := ⟨_, rfl⟩
  rw [hq] at HF
  rw [hg, he] at HG HR
  clear hq hg he
  unfold tabV at *
  go_enter Try.func7, Try.ntmps7
  go_wp2_with fail
  refine (HF.out _).mono ?_
  rintro e w1 ⟨rfl, hb1⟩
  have hB1 : Below w.heap.size w w1 := below_trans (by go_grown) hb1
  have z1 : w.heap.size ≤ w1.heap.size := hB1.size
  have a1 : Blk w1 w.heap.size [.int .i64 bits, .slice a xs.length cap] 26 := (Blk.new w _ _).step hb1
  have k1 := a1.cell 0
  have k2 := a1.cell 1
  simp only [List.getElem?_cons_zero, List.getElem?_cons_succ] at k1 k2
  cases q with
  | false =>
    go_wp2_with fail
    refine (HA.out _).mono ?_
    rintro e w2 ⟨rfl, hb2⟩
    have hB2 : Below w.heap.size w w2 := below_trans (by go_grown) hb2
    have z2 : w.heap.size ≤ w2.heap.size := hB2.size
    go_wp2
    go_returns
    exact ⟨rfl, hB2⟩
  | true =>
    go_wp2_with fail
    refine (HG.out _ (hT.step hB1)).mono ?_
    rintro e w2 ⟨rfl, hb2⟩
    have hB2 : Below w.heap.size w w2 := below_trans (by go_grown) hb2
    have z2 : w.heap.size ≤ w2.heap.size := hB2.size
    have a2 := a1.step hb2
    have k3 := a2.cell 0
    have k4 := a2.cell 1
    simp only [List.getElem?_cons_zero, List.getElem?_cons_succ] at k3 k4
    go_wp2_with fail
    refine (HR.out _ (hT.step hB2)).mono ?_
    rintro e w3 ⟨rfl, hb3⟩
    have hB3 : Below w.heap.size w w3 := below_trans (by go_grown) hb3
    have z3 : w.heap.size ≤ w3.heap.size := hB3.size
    go_wp2_with fail
    refine (HA.out _).mono ?_
    rintro e w4 ⟨rfl, hb4⟩
    have hB4 : Below w.heap.size w w4 := below_trans (by go_grown) hb4
    have z4 : w.heap.size ≤ w4.heap.size := hB4.size
    go_wp2
    go_returns
    exact ⟨rfl, hB4⟩

set_option maxHeartbeats 1000000 in
theorem slotsOpens_any (bits : Int) (xs : List Int) (hash : Nat) (hh : hash < 4294967296) (a : Option Addr) (cap : Nat) (w : World) (hT : Tab xs a cap w) :
    Calls Try.prog 5 #[tabV bits xs a cap, .int .u32 (hash : Int)] w fun e w' => e = .returned (.bool true) ∧ Below w.heap.size w w' := by
  have HF := Lib.hid fun W => few10_any bits xs a cap W
  have HA := Lib.hid awake10_any
  have HG := Lib.hid fun W h => Find10_any bits xs hash hh a cap W h
  have HR := Lib.hid fun W h => rFind10_any bits xs hash hh a cap W h
  have HO := Lib.hid fun W h => open10_o bits xs hash hh a cap W h
  have HQ := Lib.hid fun W h => ropen10_o bits xs hash hh a cap W h
  obtain ⟨q, hq⟩ : ∃ q, (decide ((xs.length : Int) ≤ 1100) && (decide (bits ≤ 6) || decide (60 < bits))) = q := ⟨_, rfl⟩
  obtain ⟨fn, hfn⟩ : ∃ g, S10.findN bits xs hash = g := ⟨_, rfl⟩
  obtain ⟨fb, hfb⟩ : ∃ g, S10.findB bits xs hash = g := ⟨_, rfl⟩
  obtain ⟨B, hB⟩ : ∃ g, S10.openB bits xs = g := ⟨_, rfl⟩
  obtain ⟨Y, hY⟩ : ∃ g, S10.openX bits xs hash = g := ⟨_, rfl⟩
  obtain ⟨N, hN⟩ : ∃ g, S10.openN bits xs hash = g := ⟨_, rfl⟩
  obtain ⟨C, hC⟩ : ∃ g, S10.check bits xs = g := ⟨_, rfl⟩
  rw [hq] at HF
  rw [hfn, hfb] at HG HR
  rw [hB, hY, hN, hC] at HO HQ
  have HS := Lib.hid fun a' b' c d W hx hy => same10_eq B Y a' b' c d W hx hy
  clear hq hfn hfb hB hY hN hC
  unfold tabV at *
  go_enter Try.func5, Try.ntmps5
  go_wp2_with fail
  refine (HF.out _).mono ?_
  rintro e w1 ⟨rfl, hb1⟩
  have hB1 : Below w.heap.size w w1 := below_trans (by go_grown) hb1
  have z1 : w.heap.size ≤ w1.heap.size := hB1.size
  have a1 : Blk w1 w.heap.size [.int .i64 bits, .slice a xs.length cap] 26 := (Blk.new w _ _).step hb1
  have k1 := a1.cell 0
  have k2 := a1.cell 1
  simp only [List.getElem?_cons_zero, List.getElem?_cons_succ] at k1 k2
  cases q with
  | false =>
    go_wp2_with fail
    refine (HA.out _).mono ?_
    rintro e w2 ⟨rfl, hb2⟩
    have hB2 : Below w.heap.size w w2 := below_trans (by go_grown) hb2
    have z2 : w.heap.size ≤ w2.heap.size := hB2.size
    go_wp2
    go_returns
    exact ⟨rfl, hB2⟩
  | true =>
    go_wp2_with fail
    refine (HG.out _ (hT.step hB1)).mono ?_
    rintro e w2 ⟨rfl, hb2⟩
    have hB2 : Below w.heap.size w w2 := below_trans (by go_grown) hb2
    have z2 : w.heap.size ≤ w2.heap.size := hB2.size
    have a2 := a1.step hb2
    have k3 := a2.cell 0
    have k4 := a2.cell 1
    simp only [List.getElem?_cons_zero, List.getElem?_cons_succ] at k3 k4
    go_wp2_with fail
    refine (HR.out _ (hT.step hB2)).mono ?_
    rintro e w3 ⟨rfl, hb3⟩
    have hB3 : Below w.heap.size w w3 := below_trans (by go_grown) hb3
    have z3 : w.heap.size ≤ w3.heap.size := hB3.size
    have a3 := a2.step hb3
    have k5 := a3.cell 0
    have k6 := a3.cell 1
    simp only [List.getElem?_cons_zero, List.getElem?_cons_succ] at k5 k6
    go_wp2_with fail
    refine (HO.out _ (hT.step hB3)).mono ?_
    rintro e w4 ⟨ax, cx, rfl, hTx, _, hb4⟩
    have hB4 := below_trans hB3 hb4
    have a4 := a3.step hb4
    have l4 := a4.lt
    have k7 := a4.cell 0
    have k8 := a4.cell 1
    simp only [List.getElem?_cons_zero, List.getElem?_cons_succ] at k7 k8
    obtain ⟨w5, hw5⟩ : ∃ w5, w4.alloc (Obj.cells #[.int .i64 B, .slice ax Y.length cx] 26) = w5 := ⟨_, rfl⟩
    have hb5 : Below w4.heap.size w4 w5 := by rw [← hw5]; exact (Below.refl _ w4).alloc (Nat.le_refl _) _
    have b5 : Blk w5 w4.heap.size [.int .i64 B, .slice ax Y.length cx] 26 := by rw [← hw5]; exact Blk.new w4 _ _
    have hB5 := below_trans hB4 hb5
    have a5 := a4.step hb5
    have k9 := a5.cell 0
    have k10 := a5.cell 1
    simp only [List.getElem?_cons_zero, List.getElem?_cons_succ] at k9 k10
    go_wp2_with fail
    refine (HQ.out _ (hT.step hB5)).mono ?_
    rintro e w6 ⟨ay, cy, rfl, hTy, _, hb6⟩
    have hB6 := below_trans hB5 hb6
    have b6 := b5.step hb6
    have l6 := b6.lt
    have hTx6 := (hTx.step hb5).step hb6
    obtain ⟨w7, hw7⟩ : ∃ w7, w6.alloc (Obj.cells #[.int .i64 B, .slice ay Y.length cy] 26) = w7 := ⟨_, rfl⟩
    have hb7 : Below w6.heap.size w6 w7 := by rw [← hw7]; exact (Below.refl _ w6).alloc (Nat.le_refl _) _
    have c7 : Blk w7 w6.heap.size [.int .i64 B, .slice ay Y.length cy] 26 := by rw [← hw7]; exact Blk.new w6 _ _
    have hB7 := below_trans hB6 hb7
    have b7 := b6.step hb7
    have m0 := b7.cell 0
    have m1 := b7.cell 1
    have m2 := c7.cell 0
    have m3 := c7.cell 1
    simp only [List.getElem?_cons_zero, List.getElem?_cons_succ] at m0 m1 m2 m3
    go_wp2_with fail
    refine (HS.out _ _ _ _ _ (hTx6.step hb7).rd (hTy.step hb7).rd).mono ?_
    rintro e w8 ⟨rfl, hb8⟩
    have hB8 := below_trans hB7 hb8
    go_wp2_with fail
    refine (HA.out _).mono ?_
    rintro e w9 ⟨rfl, hb9⟩
    have hB9 : Below w.heap.size w w9 := below_trans (by go_grown) hb9
    have z9 : w.heap.size ≤ w9.heap.size := hB9.size
    go_wp2
    go_returns
    exact ⟨rfl, hB9⟩
end Go.Proofs.Ytgbjckjfjoiilaa

namespace Go.Proofs.Ytgbjckjfjoiilaa
open Go.RowKit

set_option maxHeartbeats 1000000 in
theorem slotsWrites_any (bits : Int) (xs : List Int) (n k st : Int) (a : Option Addr) (cap : Nat) (w : World) (hT : Tab xs a cap w) :
    Calls Try.prog 6 #[tabV bits xs a cap, .agg #[.int .i64 n, .int .i64 k], .int .i64 st] w fun e w' => e = .returned (.bool true) ∧ Below w.heap.size w w' := by
  have HF := Lib.hid fun W => few10_any bits xs a cap W
  have HA := Lib.hid awake10_any
  have HO := Lib.hid fun W h => set10_o bits xs n k st a cap W h
  have HQ := Lib.hid fun W h => rset10_o bits xs n k st a cap W h
  obtain ⟨q, hq⟩ : ∃ q, (decide ((xs.length : Int) ≤ 1100) && (decide (bits ≤ 6) || decide (60 < bits))) = q := ⟨_, rfl⟩
  obtain ⟨B, hB⟩ : ∃ g, S10.setB bits xs n k st = g := ⟨_, rfl⟩
  obtain ⟨Y, hY⟩ : ∃ g, S10.setX bits xs n k st = g := ⟨_, rfl⟩
  obtain ⟨C, hC⟩ : ∃ g, S10.setE bits xs n k st = g := ⟨_, rfl⟩
  rw [hq] at HF
  rw [hB, hY, hC] at HO HQ
  have HS := Lib.hid fun a' b' c d W hx hy => same10_eq B Y a' b' c d W hx hy
  clear hq hB hY hC
  unfold tabV at *
  go_enter Try.func6, Try.ntmps6
  obtain ⟨w0, hw0⟩ : ∃ w0, (w.alloc (Obj.cells #[.int .i64 bits, .slice a xs.length cap] 26)).alloc (Obj.cells #[.int .i64 n, .int .i64 k] 51) = w0 := ⟨_, rfl⟩
  have hB0 : Below w.heap.size w w0 := by rw [← hw0]; go_grown
  have a0 : Blk w0 w.heap.size [.int .i64 bits, .slice a xs.length cap] 26 := by rw [← hw0]; exact (Blk.new w _ _).alloc _
  have b0 : Blk w0 (w.heap.size + 1) [.int .i64 n, .int .i64 k] 51 := by
    have h := Blk.new (w.alloc (Obj.cells #[.int .i64 bits, .slice a xs.length cap] 26)) [.int .i64 n, .int .i64 k] 51
    rw [← hw0]; simpa using h
  have p0 := a0.cell 0
  have p1 := a0.cell 1
  simp only [List.getElem?_cons_zero, List.getElem?_cons_succ] at p0 p1
  go_wp2_with fail
  refine (HF.out _).mono ?_
  rintro e w1 ⟨rfl, hb1⟩
  have hB1 := below_trans hB0 hb1
  have a1 := a0.step hb1
  have b1 := b0.step hb1
  have k1 := a1.cell 0
  have k2 := a1.cell 1
  have k3 := b1.cell 0
  have k4 := b1.cell 1
  simp only [List.getElem?_cons_zero, List.getElem?_cons_succ] at k1 k2 k3 k4
  cases q with
  | false =>
    go_wp2_with fail
    refine (HA.out _).mono ?_
    rintro e w2 ⟨rfl, hb2⟩
    have hB2 : Below w.heap.size w w2 := below_trans (by go_grown) hb2
    have z2 : w.heap.size ≤ w2.heap.size := hB2.size
    go_wp2
    go_returns
    exact ⟨rfl, hB2⟩
  | true =>
    go_wp2_with fail
    refine (HO.out _ (hT.step hB1)).mono ?_
    rintro e w4 ⟨ax, cx, rfl, hTx, _, hb4⟩
    have hB4 := below_trans hB1 hb4
    have a4 := a1.step hb4
    have b4 := b1.step hb4
    obtain ⟨w5, hw5⟩ : ∃ w5, w4.alloc (Obj.cells #[.int .i64 B, .slice ax Y.length cx] 26) = w5 := ⟨_, rfl⟩
    have hb5 : Below w4.heap.size w4 w5 := by rw [← hw5]; exact (Below.refl _ w4).alloc (Nat.le_refl _) _
    have c5 : Blk w5 w4.heap.size [.int .i64 B, .slice ax Y.length cx] 26 := by rw [← hw5]; exact Blk.new w4 _ _
    have hB5 := below_trans hB4 hb5
    have a5 := a4.step hb5
    have b5 := b4.step hb5
    have k9 := a5.cell 0
    have k10 := a5.cell 1
    have k11 := b5.cell 0
    have k12 := b5.cell 1
    simp only [List.getElem?_cons_zero, List.getElem?_cons_succ] at k9 k10 k11 k12
    go_wp2_with fail
    refine (HQ.out _ (hT.step hB5)).mono ?_
    rintro e w6 ⟨ay, cy, rfl, hTy, _, hb6⟩
    have hB6 := below_trans hB5 hb6
    have c6 := c5.step hb6
    have hTx6 := (hTx.step hb5).step hb6
    obtain ⟨w7, hw7⟩ : ∃ w7, w6.alloc (Obj.cells #[.int .i64 B, .slice ay Y.length cy] 26) = w7 := ⟨_, rfl⟩
    have hb7 : Below w6.heap.size w6 w7 := by rw [← hw7]; exact (Below.refl _ w6).alloc (Nat.le_refl _) _
    have d7 : Blk w7 w6.heap.size [.int .i64 B, .slice ay Y.length cy] 26 := by rw [← hw7]; exact Blk.new w6 _ _
    have hB7 := below_trans hB6 hb7
    have c7 := c6.step hb7
    have m0 := c7.cell 0
    have m1 := c7.cell 1
    have m2 := d7.cell 0
    have m3 := d7.cell 1
    simp only [List.getElem?_cons_zero, List.getElem?_cons_succ] at m0 m1 m2 m3
    go_wp2_with fail
    refine (HS.out _ _ _ _ _ (hTx6.step hb7).rd (hTy.step hb7).rd).mono ?_
    rintro e w8 ⟨rfl, hb8⟩
    have hB8 := below_trans hB7 hb8
    go_wp2_with fail
    refine (HA.out _).mono ?_
    rintro e w9 ⟨rfl, hb9⟩
    have hB9 : Below w.heap.size w w9 := below_trans (by go_grown) hb9
    have z9 : w.heap.size ≤ w9.heap.size := hB9.size
    go_wp2
    go_returns
    exact ⟨rfl, hB9⟩

set_option maxRecDepth 100000 in
set_option maxHeartbeats 2000000 in
theorem slotsMakes_any (n : Int) (bits : Int) (xs : List Int) (a : Option Addr) (cap : Nat) (w : World) (hT : Tab xs a cap w) :
    Calls Try.prog 4 #[.int .i64 n, tabV bits xs a cap] w fun e w' => e = .returned (.bool true) ∧ Below w.heap.size w w' := by
  have HF := Lib.hid fun W => few10_any bits xs a cap W
  have HA := Lib.hid awake10_any
  have HO := Lib.hid fun W => new10_o n W
  have HQ := Lib.hid fun W => rnew10_o n W
  have HC := Lib.hid fun W (h : Tab xs a cap W) => check10_any bits xs h.ok a cap h.cap W h.rd
  have HD := Lib.hid fun W (h : Tab xs a cap W) => rcheck10_any bits xs a cap W h
  obtain ⟨q, hq⟩ : ∃ q, (decide ((xs.length : Int) ≤ 1100) && (decide (bits ≤ 6) || decide (60 < bits))) = q := ⟨_, rfl⟩
  obtain ⟨B, hB⟩ : ∃ g, S10.newB n = g := ⟨_, rfl⟩
  obtain ⟨Y, hY⟩ : ∃ g, S10.newX n = g := ⟨_, rfl⟩
  obtain ⟨C, hC⟩ : ∃ g, S10.newE n = g := ⟨_, rfl⟩
  obtain ⟨D, hD⟩ : ∃ g, S10.check bits xs = g := ⟨_, rfl⟩
  rw [hq] at HF
  rw [hB, hY, hC] at HO HQ
  rw [hD] at HC HD
  have HS := Lib.hid fun a' b' c d W hx hy => same10_eq B Y a' b' c d W hx hy
  clear hq hB hY hC hD
  unfold tabV at *
  have a0 : Blk (w.alloc (Obj.cells #[.int .i64 bits, .slice a xs.length cap] 26)) w.heap.size [.int .i64 bits, .slice a xs.length cap] 26 := Blk.new w _ _
  have hB0 : Below w.heap.size w (w.alloc (Obj.cells #[.int .i64 bits, .slice a xs.length cap] 26)) := (Below.refl _ w).alloc (Nat.le_refl _) _
  obtain ⟨w0, hw0⟩ : ∃ w0, w.alloc (Obj.cells #[.int .i64 bits, .slice a xs.length cap] 26) = w0 := ⟨_, rfl⟩
  rw [hw0] at a0 hB0
  have p0 := a0.cell 0
  have p1 := a0.cell 1
  simp only [List.getElem?_cons_zero, List.getElem?_cons_succ] at p0 p1
  by_cases hbig : 8 < n ∧ n < 16
  · obtain ⟨h8, h16⟩ := hbig
    go_enter Try.func4, Try.ntmps4
    go_wp2_with fail
    refine (HA.out _).mono ?_
    rintro e w1 ⟨rfl, hb1⟩
    have hB1 := below_trans hB0 hb1
    go_wp2
    go_returns
    exact ⟨rfl, hB1⟩
  · rcases (show n ≤ 8 ∨ (8 < n ∧ 16 ≤ n) by omega) with h | ⟨h, h'⟩
    all_goals
      go_enter Try.func4, Try.ntmps4
      go_wp2_with fail
      refine (HF.out _).mono ?_
      rintro e w1 ⟨rfl, hb1⟩
      have hB1 := below_trans hB0 hb1
      have a1 := a0.step hb1
      cases q with
      | false =>
        go_wp2_with fail
        refine (HA.out _).mono ?_
        rintro e w2 ⟨rfl, hb2⟩
        have hB2 : Below w.heap.size w w2 := below_trans (by go_grown) hb2
        have z2 : w.heap.size ≤ w2.heap.size := hB2.size
        go_wp2
        go_returns
        exact ⟨rfl, hB2⟩
      | true =>
        go_wp2_with fail
        refine (HO.out _).mono ?_
        rintro e w4 ⟨ax, cx, rfl, hTx, _, hb4⟩
        have hB4 := below_trans hB1 hb4
        have a4 := a1.step hb4
        obtain ⟨w5, hw5⟩ : ∃ w5, w4.alloc (Obj.cells #[.int .i64 B, .slice ax Y.length cx] 26) = w5 := ⟨_, rfl⟩
        have hb5 : Below w4.heap.size w4 w5 := by rw [← hw5]; exact (Below.refl _ w4).alloc (Nat.le_refl _) _
        have c5 : Blk w5 w4.heap.size [.int .i64 B, .slice ax Y.length cx] 26 := by rw [← hw5]; exact Blk.new w4 _ _
        have hB5 := below_trans hB4 hb5
        have a5 := a4.step hb5
        go_wp2_with fail
        refine (HQ.out _).mono ?_
        rintro e w6 ⟨ay, cy, rfl, hTy, _, hb6⟩
        have hB6 := below_trans hB5 hb6
        have c6 := c5.step hb6
        have a6 := a5.step hb6
        have hTx6 := (hTx.step hb5).step hb6
        obtain ⟨w7, hw7⟩ : ∃ w7, w6.alloc (Obj.cells #[.int .i64 B, .slice ay Y.length cy] 26) = w7 := ⟨_, rfl⟩
        have hb7 : Below w6.heap.size w6 w7 := by rw [← hw7]; exact (Below.refl _ w6).alloc (Nat.le_refl _) _
        have d7 : Blk w7 w6.heap.size [.int .i64 B, .slice ay Y.length cy] 26 := by rw [← hw7]; exact Blk.new w6 _ _
        have hB7 := below_trans hB6 hb7
        have c7 := c6.step hb7
        have a7 := a6.step hb7
        have hTx7 := hTx6.step hb7
        have hTy7 := hTy.step hb7
        have hC2 : Cells w7 [(⟨w4.heap.size, 0, none⟩, .int .i64 B), (⟨w4.heap.size, 1, none⟩, .slice ax Y.length cx), (⟨w6.heap.size, 0, none⟩, .int .i64 B), (⟨w6.heap.size, 1, none⟩, .slice ay Y.length cy),
            (⟨w.heap.size, 0, none⟩, .int .i64 bits), (⟨w.heap.size, 1, none⟩, .slice a xs.length cap)] := ⟨c7.cell 0, c7.cell 1, d7.cell 0, d7.cell 1, a7.cell 0, a7.cell 1, trivial⟩
        go_wp2_with fail
        refine wp_region_seq 18 1 [(true, [true, true]), (false, [false, false, true]), (true, [false, false, false, true, true, true, true, true, true, true, false, true]), (false, [false, false, false, false, false, false, false, false, false, false, true]), (false, [false, false, false, false, false, false, false, false, false, false, false, false, true]), (true, [false, false, false, false, false, false, false, false, false, false, false, false, false, true, true, true]), (false, [false, false, false, false, false, false, false, false, false, false, false, false, false, false, false, false, true]), (true, [false, false, false, false, false, false, false, false, false, false, false, false, false, false, false, false, false, true])] _ _ (Keeps w7 [(⟨w4.heap.size, 0, none⟩, .int .i64 B), (⟨w4.heap.size, 1, none⟩, .slice ax Y.length cx), (⟨w6.heap.size, 0, none⟩, .int .i64 B), (⟨w6.heap.size, 1, none⟩, .slice ay Y.length cy), (⟨w.heap.size, 0, none⟩, .int .i64 bits), (⟨w.heap.size, 1, none⟩, .slice a xs.length cap)]) (by kernel_rfl) (List.take_append_drop 18 _).symm (by kernel_rfl) (by kernel_rfl) (by kernel_rfl) (by kernel_rfl) (Keeps.start hC2) (fun Y Q4 F4 hY hF => ?_)
        simp only [phased, List.flatMap_cons, List.flatMap_nil, List.take_succ_cons, List.take_zero, List.drop_succ_cons, List.drop_zero, sel_true, sel_false, sel_nil, List.map_cons, List.map_nil, List.cons_append, List.nil_append, List.append_nil]
        repeat
          apply wpSeq_read (by first | rfl | (rw [hY]; rfl))
          · intro w2 hS2
            (try simp only [Keeps, Cells] at hS2)
            (try simp only [HasC, Cells] at hS2)
            go_simp
            with_reducible rfl
          simp only [Act.put, List.setIfInBounds_toArray, List.set_cons_zero, List.set_cons_succ]
        apply wpSeq_call (by first | rfl | (rw [hY]; rfl))
        · go_simp
          with_reducible exact ⟨rfl, rfl⟩
        refine (HS.out _ _ _ _ _ (hTx7.step (Keeps.start hC2).1).rd (hTy7.step (Keeps.start hC2).1).rd).mono ?_
        rintro e w8 ⟨rfl, hb8⟩
        have hk8 := (Keeps.start hC2).step hb8
        refine ⟨_, rfl, hk8, ?_⟩
        simp only [Act.put, List.setIfInBounds_toArray, List.set_cons_zero, List.set_cons_succ]
        repeat
          apply wpSeq_read (by first | rfl | (rw [hY]; rfl))
          · intro w2 hS2
            (try simp only [Keeps, Cells] at hS2)
            (try simp only [HasC, Cells] at hS2)
            go_simp
            with_reducible rfl
          simp only [Act.put, List.setIfInBounds_toArray, List.set_cons_zero, List.set_cons_succ]
        apply wpSeq_call (by first | rfl | (rw [hY]; rfl))
        · go_simp
          with_reducible exact ⟨rfl, rfl⟩
        refine (HC.out _ (hT.step (below_trans hB7 hk8.1))).mono ?_
        rintro e w9 ⟨rfl, hb9⟩
        have hk9 := hk8.step hb9
        refine ⟨_, rfl, hk9, ?_⟩
        simp only [Act.put, List.setIfInBounds_toArray, List.set_cons_zero, List.set_cons_succ]
        apply wpSeq_call (by first | rfl | (rw [hY]; rfl))
        · go_simp
          with_reducible exact ⟨rfl, rfl⟩
        refine (HD.out _ (hT.step (below_trans hB7 hk9.1))).mono ?_
        rintro e w10 ⟨rfl, hb10⟩
        have hk10 := hk9.step hb10
        refine ⟨_, rfl, hk10, ?_⟩
        simp only [Act.put, List.setIfInBounds_toArray, List.set_cons_zero, List.set_cons_succ]
        repeat
          apply wpSeq_read (by first | rfl | (rw [hY]; rfl))
          · intro w2 hS2
            (try simp only [Keeps, Cells] at hS2)
            (try simp only [HasC, Cells] at hS2)
            go_simp
            with_reducible rfl
          simp only [Act.put, List.setIfInBounds_toArray, List.set_cons_zero, List.set_cons_succ]
        apply wpSeq_call (by first | rfl | (rw [hY]; rfl))
        · go_simp
          with_reducible exact ⟨rfl, rfl⟩
        refine (HA.out _).mono ?_
        rintro e w11 ⟨rfl, hb11⟩
        have hk11 := hk10.step hb11
        refine ⟨_, rfl, hk11, ?_⟩
        simp only [Act.put, List.setIfInBounds_toArray, List.set_cons_zero, List.set_cons_succ]
        repeat
          apply wpSeq_read (by first | rfl | (rw [hY]; rfl))
          · intro w2 hS2
            (try simp only [Keeps, Cells] at hS2)
            (try simp only [HasC, Cells] at hS2)
            go_simp
            with_reducible rfl
          simp only [Act.put, List.setIfInBounds_toArray, List.set_cons_zero, List.set_cons_succ]
        refine wpSeq_done (hF.out _ _ (fun K hK => ?_))
        clear hF hY
        have hB11 := below_trans hB7 hk11.1
        go_wp2_with fail
        refine OnlyK.mk (hK.out _ _ ?_)
        clear hK
        go_wp2
        go_returns
        exact ⟨rfl, hB11⟩
end Go.Proofs.Ytgbjckjfjoiilaa
