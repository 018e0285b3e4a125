/- Many steps of layer 10's laws, walked. No condition. -/
import Derived.Test.YtgbjckjfjoiilaaW10ag
set_option linter.unusedSimpArgs false
set_option linter.unusedVariables false
set_option linter.unusedSectionVars false
namespace Go.Proofs.Ytgbjckjfjoiilaa
open Go.RowKit

/-- A step: its hash, node and bit. -/
structure Stp where
  h : Nat
  N : Nat
  B : Nat
def Stp.ok (s : Stp) : Prop := s.h < 4294967296 ∧ s.N < 256 ∧ s.B < 256
def Stp.cells (s : Stp) : List Value := [.int .u32 (s.h : Int), .int .u8 (s.N : Int), .int .u8 (s.B : Int)]
def Stps (l : List Stp) : List Value := (l.map Stp.cells).flatten
theorem Stps_length (l : List Stp) : (Stps l).length = 3 * l.length := by
  induction l with
  | nil => rfl
  | cons x xs ih => simp [Stps, Stp.cells] at *; omega
theorem Stps_at : ∀ (l : List Stp) {i j : Nat} {x : Stp}, l[i]? = some x → j < 3 → (Stps l)[3 * i + j]? = x.cells[j]?
  | [], i, j, x, h, _ => by simp at h
  | y :: l, 0, j, x, h, hj => by
    obtain rfl : y = x := by simpa using h
    show (y.cells ++ Stps l)[3 * 0 + j]? = _
    rw [Nat.mul_zero, Nat.zero_add, List.getElem?_append_left (by simp [Stp.cells]; omega)]
  | y :: l, i + 1, j, x, h, hj => by
    show (y.cells ++ Stps l)[3 * (i + 1) + j]? = _
    rw [List.getElem?_append_right (by simp [Stp.cells]; omega)]
    have e : 3 * (i + 1) + j - y.cells.length = 3 * i + j := by simp [Stp.cells]; omega
    rw [e]
    exact Stps_at l (by simpa using h) hj

def S10.go (n : Nat) (xs : List Int) (s : Stp) : List Int := S10.runX n xs s.h (1 + s.N % 15) (s.B % 2)
/-- The table behind some steps. -/
def S10.runs (n : Nat) (l : List Stp) : List Int := l.foldl (S10.go n) (List.replicate (16 * 2 ^ n) 0)
theorem S10.runs_snoc (n : Nat) (l : List Stp) (s : Stp) : S10.runs n (l ++ [s]) = S10.go n (S10.runs n l) s := by unfold S10.runs; rw [List.foldl_append]; rfl
theorem Good.go {n : Nat} {xs : List Int} (hg : Good n xs) {s : Stp} (hs : s.ok) : Good n (S10.go n xs s) := hg.run hs.1 (by omega) (by omega) (by omega)
theorem Good.foldl {n : Nat} : ∀ (l : List Stp) (xs : List Int), Good n xs → (∀ s ∈ l, s.ok) → Good n (l.foldl (S10.go n) xs)
  | [], xs, h, _ => h
  | s :: l, xs, h, hl => Good.foldl l _ (h.go (hl s List.mem_cons_self)) (fun t ht => hl t (List.mem_cons_of_mem _ ht))
theorem Good.runs {n : Nat} (hn : n ≤ 16) {l : List Stp} (hl : ∀ s ∈ l, s.ok) : Good n (S10.runs n l) := Good.foldl l _ (Good.new hn) hl
theorem run10_go (n : Nat) (xs : List Int) (hg : Good n xs) (s : Stp) (hs : s.ok) (a : Option Addr) (cap : Nat) (w : World) (hT : Tab xs a cap w) :
    Calls Try.prog 29 #[tabV (n : Int) xs a cap, .agg #[.int .u32 (s.h : Int), .int .u8 (s.N : Int), .int .u8 (s.B : Int)]] w fun e w' => ∃ a' cap', e = .returned (.tuple #[tabV (n : Int) (S10.go n xs s) a' cap', .int .i64 (S10.openN n xs s.h : Int), .bool true]) ∧
      Tab (S10.go n xs s) a' cap' w' ∧ Fr a' w.heap.size ∧ Below w.heap.size w w' :=
  run10_ok n xs hg s.h s.N s.B _ _ hs.1 hs.2.1 hs.2.2 rfl rfl a cap w hT

theorem new10_ok (n : Nat) (hn : n ≤ 16) (w : World) :
    Calls Try.prog 13 #[.int .i64 (n : Int)] w fun e w' => ∃ a' cap', e = .returned (.tuple #[tabV (n : Int) (List.replicate (16 * 2 ^ n) 0) a' cap', .int .i64 0]) ∧ Tab (List.replicate (16 * 2 ^ n) 0) a' cap' w' ∧ Fr a' w.heap.size ∧ Below w.heap.size w w' := by
  have h := new10_o (n : Int) w
  have c : (0 : Int) ≤ (n : Int) ∧ (n : Int) ≤ 16 := by omega
  have e1 : S10.newE n = 0 := if_pos c
  have e2 : S10.newB n = n := if_pos c
  have e3 : S10.newX n = List.replicate (16 * 2 ^ n) 0 := by unfold S10.newX; rw [if_pos c, Int.toNat_natCast]
  rw [e1, e2, e3] at h
  exact h

set_option maxRecDepth 100000 in
set_option maxHeartbeats 2000000 in
theorem behind10_any (b n : Nat) (hb : b < 256) (hn : n = b % 6) (l : List Stp) (hok : ∀ s ∈ l, s.ok) (hlen : l.length ≤ 9223372036854775807) (a : Option Addr) (cap : Nat) (w : World) (hrd : Rd w a (Stps l)) :
    Calls Try.prog 30 #[.int .u8 (b : Int), .slice a l.length cap] w fun e w' => ∃ a' cap', e = .returned (.tuple #[tabV (n : Int) (S10.runs n l) a' cap', .bool true]) ∧ Tab (S10.runs n l) a' cap' w' ∧ Below w.heap.size w w' := by
  have hn6 : n < 6 := by omega
  obtain ⟨XL, hXL⟩ : ∃ X, S10.runs n l = X := ⟨_, rfl⟩
  rw [hXL]
  have HXL := Lib.hid hXL
  have H0 := Lib.hid fun W => new10_ok n (by omega) W
  have HR := Lib.hid fun xs hg s hs a cap W h => run10_go n xs hg s hs a cap W h
  have HG := Lib.hid fun k => Good.runs (n := n) (by omega) (l := l.take k) (fun s hs => hok s (List.mem_of_mem_take hs))
  have Hsn := Lib.hid fun k (hk : k < l.length) => (show S10.runs n (l.take (k + 1)) = S10.go n (S10.runs n (l.take k)) (l[k]'hk) by rw [List.take_succ_eq_append_getElem hk, S10.runs_snoc])
  have Hok := Lib.hid fun k (hk : k < l.length) => hok (l[k]'hk) (List.getElem_mem hk)
  have Hat := Lib.hid fun k (hk : k < l.length) => (show l[k]? = some (l[k]'hk) from List.getElem?_eq_getElem hk)
  have e0 : S10.runs n (l.take 0) = List.replicate (16 * 2 ^ n) 0 := rfl
  obtain ⟨X0, hX0⟩ : ∃ X, List.replicate (16 * 2 ^ n) (0 : Int) = X := ⟨_, rfl⟩
  rw [hX0] at H0 e0
  have HX0 := Lib.hid e0
  have en : (b : Int) % 6 = (n : Int) := by omega
  unfold tabV at *
  clear hn e0 hX0 hXL
  obtain ⟨w0, hw0⟩ : ∃ w0, w.alloc (Obj.cells #[.int .i64 0, .slice none 0 0] 26) = w0 := ⟨_, rfl⟩
  have hB0 : Below w.heap.size w w0 := by rw [← hw0]; exact (Below.refl _ w).alloc (Nat.le_refl _) _
  have c0 : Blk w0 w.heap.size [.int .i64 0, .slice none 0 0] 26 := by rw [← hw0]; exact Blk.new w _ _
  go_enter Try.func30, Try.ntmps30
  go_wp2_with fail
  refine (H0.out _).mono ?_
  rintro e w1 ⟨a1, c1, rfl, hT1, hF1, hb1⟩
  have z0 : w0.heap.size = w.heap.size + 1 := by rw [← hw0]; simp
  rw [z0] at hF1
  have hB1 := below_trans hB0 hb1
  have C1 := c0.step hb1
  have lC := C1.lt
  obtain ⟨S, hS⟩ : ∃ S, w1.heap.size = S := ⟨_, rfl⟩
  obtain ⟨w2, hw2⟩ : ∃ w2, w1.alloc (Obj.cells #[.int .i64 (n : Int), .slice a1 X0.length c1] 26) = w2 := ⟨_, rfl⟩
  have hb2 : Below w1.heap.size w1 w2 := by rw [← hw2]; exact (Below.refl _ w1).alloc (Nat.le_refl _) _
  have A2 : Blk w2 S [.int .i64 (n : Int), .slice a1 X0.length c1] 26 := by rw [← hw2, ← hS]; exact Blk.new w1 _ _
  have hB2 := below_trans hB1 hb2
  have C2 := C1.step hb2
  have T2 := hT1.step hb2
  rw [hS] at lC
  go_wp2
  go_loopw [8, 22] (fun o i wr => ∃ k : Nat, k ≤ l.length ∧ i = .int .i64 (k : Int) ∧ o = .bool true ∧ (∃ a' cap', Blk wr S [.int .i64 (n : Int), .slice a' (S10.runs n (l.take k)).length cap'] 26 ∧ Tab (S10.runs n (l.take k)) a' cap' wr ∧ Fr a' (w.heap.size + 1)) ∧
      Blk wr w.heap.size [.int .i64 0, .slice none 0 0] 26 ∧ Below w.heap.size w wr)
    (fun _ i _ => l.length - (intOf i).toNat)
  case atStart => exact ⟨0, by omega, rfl, rfl, ⟨a1, c1, by rw [HX0.out]; exact A2, by rw [HX0.out]; exact T2, hF1⟩, C2, hB2⟩
  case round =>
    obtain ⟨k, hk, rfl, rfl, ⟨ar, cr, Ar, Tr, Fr'⟩, Cr, hB⟩ := hrel
    have lr := Ar.lt
    by_cases hlt : k < l.length
    · have hg := HG.out k
      have hsn := Hsn.out k hlt
      have hso := Hok.out k hlt
      have hat := Hat.out k hlt
      obtain ⟨g, o, rfl, hcs⟩ := hrd.step hB (fun e => by have h1 := congrArg List.length e; rw [Stps_length] at h1; simp at h1; omega)
      obtain ⟨s, hs⟩ : ∃ s, l[k]'hlt = s := ⟨_, rfl⟩
      rw [hs] at hsn hso hat
      have x0 : wr.cell? ⟨g, o + k * 3, none⟩ = some (.int .u32 (s.h : Int)) := by
        have := hcs (3 * k + 0) _ ((Stps_at l hat (j := 0) (by omega)).trans rfl)
        rw [show o + (3 * k + 0) = o + k * 3 by omega] at this; exact this
      have x1 : wr.cell? ⟨g, o + k * 3 + 1, none⟩ = some (.int .u8 (s.N : Int)) := by
        have := hcs (3 * k + 1) _ ((Stps_at l hat (j := 1) (by omega)).trans rfl)
        rw [show o + (3 * k + 1) = o + k * 3 + 1 by omega] at this; exact this
      have x2 : wr.cell? ⟨g, o + k * 3 + 2, none⟩ = some (.int .u8 (s.B : Int)) := by
        have := hcs (3 * k + 2) _ ((Stps_at l hat (j := 2) (by omega)).trans rfl)
        rw [show o + (3 * k + 2) = o + k * 3 + 2 by omega] at this; exact this
      obtain ⟨X, hX⟩ : ∃ X, S10.runs n (l.take k) = X := ⟨_, rfl⟩
      rw [hX] at Ar Tr hg hsn
      have R1 := Lib.hid fun W hW => HR.out X hg s hso ar cr W hW
      obtain ⟨Y, hY⟩ : ∃ Y, S10.go n X s = Y := ⟨_, rfl⟩
      rw [hY] at hsn R1
      have Hs1 := Lib.hid hsn
      have hgb := block_lt_of_cell x0
      have hgb1 := block_lt_of_cell x1
      simp only at hgb hgb1
      have k0 := Ar.cell 0
      have k1 := Ar.cell 1
      simp only [List.getElem?_cons_zero, List.getElem?_cons_succ] at k0 k1
      clear hcs hsn hat hs hX hY hg hso
      go_wp2_with fail
      refine (R1.out _ (Tr.alloc _)).mono ?_
      rintro e w5 ⟨a5, c5, rfl, hT5, hF5, hb5⟩
      have hba : Below wr.heap.size wr (wr.alloc (Obj.cells #[.int .u32 (s.h : Int), .int .u8 (s.N : Int), .int .u8 (s.B : Int)] 64)) := (Below.refl _ wr).alloc (Nat.le_refl _) _
      have hb5' := below_trans hba hb5
      replace hF5 := hF5.mono (show S + 1 ≤ (wr.alloc (Obj.cells #[.int .u32 (s.h : Int), .int .u8 (s.N : Int), .int .u8 (s.B : Int)] 64)).heap.size by simp; omega)
      have hB5 := below_trans hB hb5'
      have A5 := Ar.step hb5'
      have C5 := Cr.step hb5'
      have r0 := A5.cell 0
      have r1 := A5.cell 1
      have f0 := A5.free 0
      have f1 := A5.free 1
      have A6 := Lib.hid ((A5.set 0 (.int .i64 (n : Int))).set 1 (.slice a5 Y.length c5))
      have C6 := Lib.hid ((C5.other S 0 (.int .i64 (n : Int)) (by omega)).other S 1 (.slice a5 Y.length c5) (by omega))
      have T6 := Lib.hid ((hT5.other hF5 S 0 (.int .i64 (n : Int)) (by omega)).other hF5 S 1 (.slice a5 Y.length c5) (by omega))
      have hB6 := Lib.hid ((hB5.setCell (p := ⟨S, 0, none⟩) (by simp; omega) (.int .i64 (n : Int))).setCell (p := ⟨S, 1, none⟩) (by simp; omega) (.slice a5 Y.length c5))
      simp only [List.getElem?_cons_zero, List.getElem?_cons_succ] at r0 r1
      clear A5 C5 Ar Cr Tr hT5 hB5 x0 x1 x2 k0 k1
      go_wp2
      go_roundw
      case rel => exact ⟨k + 1, by omega, by simp, rfl, ⟨a5, c5, by rw [Hs1.out]; exact A6.out, by rw [Hs1.out]; exact T6.out, hF5.mono (by omega)⟩, C6.out, hB6.out⟩
      case measure => simp [intOf]; omega
    · obtain rfl : k = l.length := by omega
      rw [List.take_length] at Ar Tr
      rw [HXL.out] at Ar Tr
      have r0 := Cr.cell 0
      have r1 := Cr.cell 1
      have f0 := Cr.free 0
      have f1 := Cr.free 1
      have k0 := Ar.cell 0
      have k1 := Ar.cell 1
      have hlr := Cr.lt
      have hC := (Cr.set 0 (.int .i64 (n : Int))).set 1 (.slice ar XL.length cr)
      have g0 := hC.cell 0
      have g1 := hC.cell 1
      simp only [List.set_cons_zero, List.set_cons_succ, List.getElem?_cons_zero, List.getElem?_cons_succ] at r0 r1 k0 k1 g0 g1
      have T6 := Lib.hid ((Tr.other Fr' w.heap.size 0 (.int .i64 (n : Int)) (by omega)).other Fr' w.heap.size 1 (.slice ar XL.length cr) (by omega))
      have hB6 := Lib.hid ((hB.setCell (p := ⟨w.heap.size, 0, none⟩) (by simp) (.int .i64 (n : Int))).setCell (p := ⟨w.heap.size, 1, none⟩) (by simp) (.slice ar XL.length cr))
      clear Tr hB hC Ar Cr
      go_wp2
      exact bodyPost_ret (v := .tuple #[.agg #[.int .i64 (n : Int), .slice ar XL.length cr], .bool true]) (by simp [results, Try.results30, go_sem, g0, g1]) rfl ⟨ar, cr, rfl, T6.out, hB6.out⟩
end Go.Proofs.Ytgbjckjfjoiilaa
