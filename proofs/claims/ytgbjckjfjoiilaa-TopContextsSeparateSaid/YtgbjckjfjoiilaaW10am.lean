/- The law SlotsSeparates, walked. No condition. -/
import Derived.Test.YtgbjckjfjoiilaaW10al
import Derived.Laws.BitsAllLaws
set_option linter.unusedSimpArgs false
set_option linter.unusedVariables false
set_option linter.unusedSectionVars false
namespace Go.Proofs.Ytgbjckjfjoiilaa
open Go.RowKit

theorem and_low (a : Nat) : a &&& 16777215 = a % 16777216 := Nat.and_two_pow_sub_one_eq_mod a 24
theorem and_high {a : Nat} (h : a < 4294967296) : a &&& 4278190080 = a / 16777216 * 16777216 := by
  have e : (4278190080 : Nat) = (2 ^ 8 - 1) <<< 24 := by decide
  have e2 : a / 16777216 * 16777216 = (a >>> 24) <<< 24 := by rw [Nat.shiftLeft_eq, Nat.shiftRight_eq_div_pow]
  rw [e2]
  apply Nat.eq_of_testBit_eq
  intro i
  rw [Nat.testBit_and, e, Nat.testBit_shiftLeft, Nat.testBit_shiftLeft, Nat.testBit_shiftRight, Nat.testBit_two_pow_sub_one]
  by_cases h1 : 24 ≤ i
  · by_cases h2 : i < 32
    · simp [h1, show 24 + (i - 24) = i by omega, show i - 24 < 8 by omega]
    · have : a.testBit i = false := Nat.testBit_lt_two_pow (Nat.lt_of_lt_of_le h (Nat.pow_le_pow_right (n := 2) (by omega) (show 32 ≤ i by omega)))
      simp [h1, show 24 + (i - 24) = i by omega, this]
  · simp [h1]
theorem or_mix (a b : Nat) : a / 16777216 * 16777216 ||| b % 16777216 = mixH a b := by
  have h := Nat.two_pow_add_eq_or_of_lt (i := 24) (b := b % 16777216) (by omega) (a / 16777216)
  unfold mixH
  rw [Nat.mul_comm (a / 16777216) 16777216]
  exact h.symm

def hcs (h H : Nat → Nat) (j : Nat) : List Value := [.int .u32 ((if 0 < j then H 0 else h 0 : Nat) : Int), .int .u32 ((if 1 < j then H 1 else h 1 : Nat) : Int), .int .u32 ((if 2 < j then H 2 else h 2 : Nat) : Int)]
def acs (p : Nat → Nat) (j : Nat) : List Value := [.int .i64 ((if 0 < j then p 0 else 0 : Nat) : Int), .int .i64 ((if 1 < j then p 1 else 0 : Nat) : Int), .int .i64 ((if 2 < j then p 2 else 0 : Nat) : Int)]
theorem three {j : Nat} (h : j < 3) : j = 0 ∨ j = 1 ∨ j = 2 := by omega
theorem hcs_at (h H : Nat → Nat) {j : Nat} (hj : j < 3) : (hcs h H j)[j]? = some (.int .u32 (h j : Int)) := by rcases three hj with rfl | rfl | rfl <;> rfl
theorem hcs_zero (h H : Nat → Nat) (e : H 0 = h 0) (j : Nat) : (hcs h H j)[0]? = some (.int .u32 (h 0 : Int)) := by
  unfold hcs
  rw [e]; simp
theorem hcs_set (h H : Nat → Nat) {j : Nat} (hj : j < 3) : (hcs h H j).set j (.int .u32 (H j : Int)) = hcs h H (j + 1) := by rcases three hj with rfl | rfl | rfl <;> rfl
theorem hcs_new (h H : Nat → Nat) {j : Nat} (hj : j < 3) : (hcs h H (j + 1))[j]? = some (.int .u32 (H j : Int)) := by rcases three hj with rfl | rfl | rfl <;> rfl
theorem hcs_all (h H : Nat → Nat) {t : Nat} (ht : t < 3) : (hcs h H 3)[t]? = some (.int .u32 (H t : Int)) := by rcases three ht with rfl | rfl | rfl <;> rfl
theorem acs_at (p : Nat → Nat) {j : Nat} (hj : j < 3) : (acs p j)[j]? = some (.int .i64 0) := by rcases three hj with rfl | rfl | rfl <;> rfl
theorem acs_set (p : Nat → Nat) {j : Nat} (hj : j < 3) : (acs p j).set j (.int .i64 (p j : Int)) = acs p (j + 1) := by rcases three hj with rfl | rfl | rfl <;> rfl
theorem acs_all (p : Nat → Nat) {t : Nat} (ht : t < 3) : (acs p 3)[t]? = some (.int .i64 (p t : Int)) := by rcases three ht with rfl | rfl | rfl <;> rfl

theorem run10_first (n : Nat) (xs : List Int) (hg : Good n xs) (h b : Nat) (hh : h < 4294967296) (hb : b < 2) (a : Option Addr) (cap : Nat) (w : World) (hT : Tab xs a cap w) :
    Calls Try.prog 29 #[tabV (n : Int) xs a cap, .agg #[.int .u32 (h : Int), .int .u8 0, .int .u8 (b : Int)]] w fun e w' => ∃ a' cap', e = .returned (.tuple #[tabV (n : Int) (S10.runX n xs h 1 b) a' cap', .int .i64 (S10.openN n xs h : Int), .bool true]) ∧
      Tab (S10.runX n xs h 1 b) a' cap' w' ∧ Fr a' w.heap.size ∧ Below w.heap.size w w' :=
  run10_ok n xs hg h 0 b 1 b hh (by omega) (by omega) rfl (by omega) a cap w hT

set_option maxRecDepth 100000 in
set_option maxHeartbeats 1000000 in
theorem slotsSeparates_main (b nd : Nat) (hb : b < 256) (hnd : nd < 256) (h : Nat → Nat) (hl : ∀ t, t < 3 → h t < 4294967296) (hne : ∀ s t, s < 3 → t < 3 → s ≠ t → h s / 16777216 ≠ h t / 16777216) (w : World) :
    Calls Try.prog 8 #[.int .u8 (b : Int), .int .u8 (nd : Int), .agg #[.int .u32 (h 0 : Int), .int .u32 (h 1 : Int), .int .u32 (h 2 : Int)]] w fun e w' => e = .returned (.bool true) ∧ Below w.heap.size w w' := by
  have HA := Lib.hid awake10_any
  obtain ⟨n, hn⟩ : ∃ n, n = 2 + b % 4 := ⟨_, rfl⟩
  have hn2 : 2 ≤ n := by omega
  have hn5 : n ≤ 5 := by omega
  have en : 2 + (b : Int) % 4 = (n : Int) := by omega
  obtain ⟨k, hk⟩ : ∃ k, k = 2 + nd % 14 := ⟨_, rfl⟩
  have hk2 : 2 ≤ k := by omega
  have hk15 : k ≤ 15 := by omega
  have ek : 2 + (nd : Int) % 14 = (k : Int) := by omega
  have hP := places3_ok hn2 hn5 h hl hne
  have d0 : ((h 0 : Int) / 16777216 == (h 1 : Int) / 16777216) = false := by have := hne 0 1 (by omega) (by omega) (by omega); simp; omega
  have d1 : ((h 0 : Int) / 16777216 == (h 2 : Int) / 16777216) = false := by have := hne 0 2 (by omega) (by omega) (by omega); simp; omega
  have d2 : ((h 1 : Int) / 16777216 == (h 2 : Int) / 16777216) = false := by have := hne 1 2 (by omega) (by omega) (by omega); simp; omega
  obtain ⟨p, hp⟩ : ∃ p : Nat → Nat, (fun t => S10.first n (h 0) ^^^ t) = p := ⟨_, rfl⟩
  obtain ⟨m, hm⟩ : ∃ m : Nat → Nat, (fun t => h t / 16777216) = m := ⟨_, rfl⟩
  obtain ⟨H, hH⟩ : ∃ H : Nat → Nat, (fun t => mixH (h t) (h 0)) = H := ⟨_, rfl⟩
  have HH : ∀ t, mixH (h t) (h 0) = H t := fun t => by rw [← hH]
  have hH0 : H 0 = h 0 := by rw [← HH]; exact mixH_self _
  rw [hp, hm, hH] at hP
  have H0 := Lib.hid fun W => new10_ok n (by omega) W
  have hS0 := Sep.new (n := n) (by omega) p m
  obtain ⟨X0, hX0⟩ : ∃ X, List.replicate (16 * 2 ^ n) (0 : Int) = X := ⟨_, rfl⟩
  rw [hX0] at H0 hS0
  have HP := Lib.hid hP
  have HS0 := Lib.hid hS0
  have Hl := Lib.hid hl
  have HHH := Lib.hid HH
  have HH0 := Lib.hid hH0
  clear hne hp hm hH HH hH0 hX0 hS0 hP hn hk hl
  unfold tabV at *
  obtain ⟨w0, hw0⟩ : ∃ w0, w.alloc (Obj.cells #[.int .u32 (h 0 : Int), .int .u32 (h 1 : Int), .int .u32 (h 2 : Int)] 60) = w0 := ⟨_, rfl⟩
  have hB0 : Below w.heap.size w w0 := by rw [← hw0]; exact (Below.refl _ w).alloc (Nat.le_refl _) _
  have b0 : Blk w0 w.heap.size (hcs h H 0) 60 := by rw [← hw0]; exact Blk.new w _ _
  have z0 : w0.heap.size = w.heap.size + 1 := by rw [← hw0]; simp
  go_enter Try.func8, Try.ntmps8
  go_wp2_with fail
  refine (H0.out _).mono ?_
  rintro e w1 ⟨a1, c1, rfl, hT1, hF1, hb1⟩
  have hB1 := below_trans hB0 hb1
  have B1 := b0.step hb1
  have q0 := B1.cell 0
  have q1 := B1.cell 1
  have q2 := B1.cell 2
  simp only [hcs, List.getElem?_cons_zero, List.getElem?_cons_succ, Nat.lt_irrefl, if_false, show ¬ (1 < 0) from by omega, show ¬ (2 < 0) from by omega] at q0 q1 q2
  obtain ⟨S, hS⟩ : ∃ S, w1.heap.size = S := ⟨_, rfl⟩
  have lB := B1.lt
  obtain ⟨w2, hw2⟩ : ∃ w2, (w1.alloc (Obj.cells #[.int .i64 (n : Int), .slice a1 X0.length c1] 26)).alloc (Obj.cells #[.int .i64 0, .int .i64 0, .int .i64 0] 62) = w2 := ⟨_, rfl⟩
  have hb2 : Below w1.heap.size w1 w2 := by rw [← hw2]; exact ((Below.refl _ w1).alloc (Nat.le_refl _) _).alloc (by simp) _
  have A2 : Blk w2 S [.int .i64 (n : Int), .slice a1 X0.length c1] 26 := by rw [← hw2, ← hS]; exact (Blk.new w1 _ _).alloc _
  have C2 : Blk w2 (S + 1) (acs p 0) 62 := by
    have hh := Blk.new (w1.alloc (Obj.cells #[.int .i64 (n : Int), .slice a1 X0.length c1] 26)) (acs p 0) 62
    rw [← hw2, ← hS]; rw [World.size_alloc] at hh; exact hh
  have hB2 := below_trans hB1 hb2
  have B2 := B1.step hb2
  have T2 := hT1.step hb2
  rw [hS] at lB
  go_wp2
  go_loopw [64] (fun t wr => ∃ j : Nat, j ≤ 3 ∧ t = .int .i64 (j : Int) ∧ Blk wr w.heap.size (hcs h H j) 60 ∧ Blk wr (S + 1) (acs p j) 62 ∧
      (∃ X a' c', Sep n p m j X ∧ Blk wr S [.int .i64 (n : Int), .slice a' X.length c'] 26 ∧ Tab X a' c' wr ∧ Fr a' (w.heap.size + 1)) ∧ Below w.heap.size w wr)
    (fun t _ => 3 - (intOf t).toNat)
  case atStart => exact ⟨0, by omega, rfl, B2, C2, ⟨X0, a1, c1, HS0.out, A2, T2, by rw [← z0]; exact hF1⟩, hB2⟩
  case round =>
    obtain ⟨j, hj, rfl, Br, Cr, ⟨X, ar, cr, hSep, Ar, Tr, Fa⟩, hB⟩ := hrel
    have lA := Ar.lt
    have lC := Cr.lt
    have zr := hB.size
    by_cases hlt : j < 3
    · have x0 : wr.cell? ⟨w.heap.size, j, none⟩ = some (.int .u32 (h j : Int)) := (Br.cell j).trans (hcs_at h H hlt)
      have x1 : wr.cell? ⟨w.heap.size, 0, none⟩ = some (.int .u32 (h 0 : Int)) := (Br.cell 0).trans (hcs_zero h H HH0.out j)
      have hlj := Hl.out j hlt
      have hl0 := Hl.out 0 (by omega)
      have eA : Go.bits .andNot .u32 (h j : Int) 16777215 = ((h j / 16777216 * 16777216 : Nat) : Int) := (u32_andNot_nat (h j) 16777215 hlj (by omega)).trans (by rw [and_high hlj])
      have eB : Go.bits .and .u32 (h 0 : Int) 16777215 = ((h 0 % 16777216 : Nat) : Int) := (u32_and_nat (h 0) 16777215 hl0 (by omega)).trans (by rw [and_low])
      obtain ⟨hi, hhi⟩ : ∃ hi, h j / 16777216 * 16777216 = hi := ⟨_, rfl⟩
      obtain ⟨lo, hlo⟩ : ∃ lo, h 0 % 16777216 = lo := ⟨_, rfl⟩
      have eC : Go.bits .or .u32 (hi : Int) (lo : Int) = (H j : Int) := (u32_or_nat hi lo (by omega) (by omega)).trans (by rw [← hhi, ← hlo, or_mix, HHH.out])
      rw [hhi] at eA
      rw [hlo] at eB
      obtain ⟨hj', ehj⟩ : ∃ x, h j = x := ⟨_, rfl⟩
      obtain ⟨Hj, eHj⟩ : ∃ x, H j = x := ⟨_, rfl⟩
      rw [ehj] at x0 eA
      rw [eHj] at eC
      have hC2 : Cells wr [(⟨w.heap.size, j, none⟩, .int .u32 (hj' : Int)), (⟨w.heap.size, 0, none⟩, .int .u32 (h 0 : Int))] := ⟨x0, x1, trivial⟩
      have HEj := Lib.hid eHj
      clear hhi hlo ehj eHj hlj hl0
      go_wp2
      refine wp_region_seq 9 2 [(true, [true, true, true, true, true, true, true, true, true])] _ _ (Keeps wr [(⟨w.heap.size, j, none⟩, .int .u32 (hj' : Int)), (⟨w.heap.size, 0, none⟩, .int .u32 (h 0 : Int))]) (by kernel_rfl) (List.take_append_drop 9 _).symm (by kernel_rfl) (by kernel_rfl) (by kernel_rfl) (by kernel_rfl) (Keeps.start hC2) (fun Y Q4 F4 hY hF => ?_)
      simp only [phased, List.flatMap_cons, List.flatMap_nil, List.take_succ_cons, List.take_zero, List.drop_succ_cons, List.drop_zero, sel_true, sel_false, sel_nil, List.map_cons, List.map_nil, List.cons_append, List.nil_append, List.append_nil]
      repeat
        apply wpSeq_read (by first | rfl | (rw [hY]; rfl))
        · intro w2 hS2
          (try simp only [Keeps, Cells] at hS2)
          (try simp only [HasC, Cells] at hS2)
          go_simp
          with_reducible rfl
        simp only [Act.put, List.setIfInBounds_toArray, List.set_cons_zero, List.set_cons_succ]
      refine wpSeq_done (hF.out _ _ (fun K hK => ?_))
      clear hF hY
      have hbD : Below wr.heap.size wr wr.drew := (Keeps.start hC2).1
      have BD := Br.step hbD
      have CD := Cr.step hbD
      have AD := Ar.step hbD
      have TD := Tr.step hbD
      have hBD := below_trans hB hbD
      have x2 : wr.drew.cell? ⟨w.heap.size, j, none⟩ = some (.int .u32 (hj' : Int)) := x0
      have fD := BD.free j
      generalize wr.drew = wD at *
      have B5 := BD.set j (.int .u32 (Hj : Int))
      rw [← HEj.out, hcs_set h H hlt, HEj.out] at B5
      have C5 := CD.other w.heap.size j (.int .u32 (Hj : Int)) (by omega)
      have A5 := AD.other w.heap.size j (.int .u32 (Hj : Int)) (by omega)
      have T5 := TD.other Fa w.heap.size j (.int .u32 (Hj : Int)) (by omega)
      have hB5 := hBD.setCell (p := ⟨w.heap.size, j, none⟩) (by simp) (.int .u32 (Hj : Int))
      go_wp2_with fail
      refine OnlyK.mk (hK.out _ _ ?_)
      clear hK
      generalize wD.setCell ⟨w.heap.size, j, none⟩ (.int .u32 (Hj : Int)) = w5 at *
      have x5 : w5.cell? ⟨w.heap.size, j, none⟩ = some (.int .u32 (Hj : Int)) := (B5.cell j).trans ((hcs_new h H hlt).trans (by rw [HEj.out]))
      obtain ⟨bj, hbj⟩ : ∃ bj, bj = j % 2 := ⟨_, rfl⟩
      have hbj2 : bj < 2 := by omega
      have ebj : (j : Int) % 2 = (bj : Int) := by omega
      have ebj2 : (bj : Int) % 256 = (bj : Int) := by omega
      have HR := Lib.hid fun W hW => run10_first n X hSep.good Hj bj (by rw [← HEj.out]; exact HP.out.hl j hlt) hbj2 ar cr W hW
      have hnx := hSep.openN HP.out hlt
      have hrx := hSep.run HP.out hlt hbj2
      rw [HEj.out] at hnx hrx
      rw [hnx] at HR
      obtain ⟨Z, hZ⟩ : ∃ Z, S10.runX n X Hj 1 bj = Z := ⟨_, rfl⟩
      rw [hZ] at HR hrx
      obtain ⟨pj, hpj⟩ : ∃ pj, p j = pj := ⟨_, rfl⟩
      rw [hpj] at HR
      have Hpj := Lib.hid hpj
      have Hrx := Lib.hid hrx
      unfold tabV at HR
      have lA5 := A5.lt
      have lC5 := C5.lt
      have s0 := A5.cell 0
      have s1 := A5.cell 1
      simp only [List.getElem?_cons_zero, List.getElem?_cons_succ] at s0 s1
      clear hbj hnx hrx hZ hpj Br Cr Ar Tr AD BD CD TD hBD x0 x1 x2 fD hC2 eA eB eC
      go_wp2_with fail
      refine (HR.out _ (T5.alloc _)).mono ?_
      rintro e w6 ⟨a6, c6, rfl, hT6, hF6, hb6⟩
      have hba : Below w5.heap.size w5 (w5.alloc (Obj.cells #[.int .u32 (Hj : Int), .int .u8 0, .int .u8 (bj : Int)] 64)) := (Below.refl _ w5).alloc (Nat.le_refl _) _
      have hb6' := below_trans hba hb6
      replace hF6 := hF6.mono (show S + 1 + 1 ≤ (w5.alloc (Obj.cells #[.int .u32 (Hj : Int), .int .u8 0, .int .u8 (bj : Int)] 64)).heap.size by simp; omega)
      have hB6 := below_trans hB5 hb6'
      have A6 := A5.step hb6'
      have B6 := B5.step hb6'
      have C6 := C5.step hb6'
      have r0 := A6.cell 0
      have r1 := A6.cell 1
      have f0 := A6.free 0
      have f1 := A6.free 1
      have y0 : w6.cell? ⟨S + 1, j, none⟩ = some (.int .i64 0) := (C6.cell j).trans (acs_at p hlt)
      have g0 := C6.free j
      simp only [List.getElem?_cons_zero, List.getElem?_cons_succ] at r0 r1
      have A7 := Lib.hid (((A6.set 0 (.int .i64 (n : Int))).set 1 (.slice a6 Z.length c6)).other (S + 1) j (.int .i64 (pj : Int)) (by omega))
      have B7 := Lib.hid (((B6.other S 0 (.int .i64 (n : Int)) (by omega)).other S 1 (.slice a6 Z.length c6) (by omega)).other (S + 1) j (.int .i64 (pj : Int)) (by omega))
      have C7 := Lib.hid (show Blk (((w6.setCell ⟨S, 0, none⟩ (.int .i64 (n : Int))).setCell ⟨S, 1, none⟩ (.slice a6 Z.length c6)).setCell ⟨S + 1, j, none⟩ (.int .i64 (pj : Int))) (S + 1) (acs p (j + 1)) 62 by
        have := ((C6.other S 0 (.int .i64 (n : Int)) (by omega)).other S 1 (.slice a6 Z.length c6) (by omega)).set j (.int .i64 (pj : Int))
        rwa [← Hpj.out, acs_set p hlt, Hpj.out] at this)
      have T7 := Lib.hid (((hT6.other hF6 S 0 (.int .i64 (n : Int)) (by omega)).other hF6 S 1 (.slice a6 Z.length c6) (by omega)).other hF6 (S + 1) j (.int .i64 (pj : Int)) (by omega))
      have hB7 := Lib.hid (((hB6.setCell (p := ⟨S, 0, none⟩) (by simp; omega) (.int .i64 (n : Int))).setCell (p := ⟨S, 1, none⟩) (by simp; omega) (.slice a6 Z.length c6)).setCell (p := ⟨S + 1, j, none⟩) (by simp; omega) (.int .i64 (pj : Int)))
      clear A5 B5 C5 T5 A6 B6 C6 hT6 hB6 s0 s1 x5
      go_wp2
      go_roundw
      case rel => exact ⟨j + 1, by omega, by simp, B7.out, C7.out, ⟨Z, a6, c6, Hrx.out, A7.out, T7.out, hF6.mono (by omega)⟩, hB7.out⟩
      case measure => simp [intOf]; omega
    · obtain rfl : j = 3 := by omega
      have hSet := hSep.set_good HP.out hk2 hk15
      have hg := hSep.good
      have hp1 := HP.out.lt 1 (by omega)
      have HSt := Lib.hid fun W hW => set10_o (n : Int) X (p 1 : Nat) (k : Int) 9 ar cr W hW
      rw [hg.setB hp1 (by omega) hk15 (by decide), hg.setE hp1 (by omega) hk15 (by decide), hg.setX hp1 (by omega) hk15 (by decide)] at HSt
      have hfind : ∀ t, t < 3 → S10.findN (n : Int) (X.set (16 * p 1 + k) 9) (H t) = p t ∧ S10.findB (n : Int) (X.set (16 * p 1 + k) 9) (H t) = true := fun t ht => by
        have hf := hSep.set_find HP.out hk2 hk15 ht
        unfold S10.findN S10.findB
        rw [if_pos hSet.check, if_pos hSet.check, Int.toNat_natCast, hf]
        exact ⟨rfl, rfl⟩
      have hget : ∀ t, t < 3 → S10.getN (n : Int) (X.set (16 * p 1 + k) 9) (p t : Nat) (k : Int) = (if t = 1 then 9 else 0) ∧ S10.node (n : Int) (X.set (16 * p 1 + k) 9) (p t : Nat) (k : Int) = 0 := fun t ht => by
        rw [hSet.getN (HP.out.lt t ht) (by omega) hk15, hSet.node (HP.out.lt t ht) (by omega) hk15]
        exact ⟨hSep.set_at HP.out hk2 hk15 ht, rfl⟩
      have Hok := Lib.hid fun t (ht : t < 3) => HP.out.hl t ht
      have HFi := Lib.hid fun t (ht : t < 3) a' c' W hW => Find10_any (n : Int) (X.set (16 * p 1 + k) 9) (H t) (Hok.out t ht) a' c' W hW
      have HGe := Lib.hid fun t (ht : t < 3) a' c' W hW => get10_any (n : Int) (X.set (16 * p 1 + k) 9) (p t : Nat) (k : Int) a' c' W hW
      have Hfind := Lib.hid hfind
      have Hget := Lib.hid hget
      obtain ⟨Z, hZ⟩ : ∃ Z, X.set (16 * p 1 + k) 9 = Z := ⟨_, rfl⟩
      rw [hZ] at HSt HFi HGe Hfind Hget
      have n01 : ((p 0 : Int) == (p 1 : Int)) = false := by have := HP.out.ne 0 1 (by omega) (by omega) (by omega); simp; omega
      have n02 : ((p 0 : Int) == (p 2 : Int)) = false := by have := HP.out.ne 0 2 (by omega) (by omega) (by omega); simp; omega
      have n12 : ((p 1 : Int) == (p 2 : Int)) = false := by have := HP.out.ne 1 2 (by omega) (by omega) (by omega); simp; omega
      have y0 : wr.cell? ⟨S + 1, 0, none⟩ = some (.int .i64 (p 0 : Int)) := (Cr.cell 0).trans (acs_all p (by omega))
      have y1 : wr.cell? ⟨S + 1, 1, none⟩ = some (.int .i64 (p 1 : Int)) := (Cr.cell 1).trans (acs_all p (by omega))
      have y2 : wr.cell? ⟨S + 1, 2, none⟩ = some (.int .i64 (p 2 : Int)) := (Cr.cell 2).trans (acs_all p (by omega))
      have s0 := Ar.cell 0
      have s1 := Ar.cell 1
      simp only [List.getElem?_cons_zero, List.getElem?_cons_succ] at s0 s1
      unfold tabV at *
      clear hSet hg hfind hget hZ hSep d0 d1 d2 q0 q1 q2
      go_wp2_with fail
      refine (HSt.out _ Tr).mono ?_
      rintro e w6 ⟨a6, c6, rfl, hT6, hF6, hb6⟩
      replace hF6 := hF6.mono (show S + 1 ≤ wr.heap.size by omega)
      have hB6 := below_trans hB hb6
      have A6 := Ar.step hb6
      have B6 := Br.step hb6
      have C6 := Cr.step hb6
      have r0 := A6.cell 0
      have r1 := A6.cell 1
      have f0 := A6.free 0
      have f1 := A6.free 1
      simp only [List.getElem?_cons_zero, List.getElem?_cons_succ] at r0 r1
      obtain ⟨w7, hw7⟩ : ∃ w7, (w6.setCell ⟨S, 0, none⟩ (.int .i64 (n : Int))).setCell ⟨S, 1, none⟩ (.slice a6 Z.length c6) = w7 := ⟨_, rfl⟩
      have A7 : Blk w7 S [.int .i64 (n : Int), .slice a6 Z.length c6] 26 := by rw [← hw7]; exact (A6.set 0 (.int .i64 (n : Int))).set 1 (.slice a6 Z.length c6)
      have B7 : Blk w7 w.heap.size (hcs h H 3) 60 := by rw [← hw7]; exact (B6.other S 0 _ (by omega)).other S 1 _ (by omega)
      have C7 : Blk w7 (S + 1) (acs p 3) 62 := by rw [← hw7]; exact (C6.other S 0 _ (by omega)).other S 1 _ (by omega)
      have T7 : Tab Z a6 c6 w7 := by rw [← hw7]; exact (hT6.other hF6 S 0 _ (by omega)).other hF6 S 1 _ (by omega)
      have hB7 : Below w.heap.size w w7 := by rw [← hw7]; exact (hB6.setCell (p := ⟨S, 0, none⟩) (by simp; omega) _).setCell (p := ⟨S, 1, none⟩) (by simp; omega) _
      clear A6 B6 C6 hT6 hB6 Ar Br Cr Tr y0 y1 y2 s0 s1
      go_wp2
      go_loopw [127] (fun t wr => ∃ q : Nat, q ≤ 3 ∧ t = .int .i64 (q : Int) ∧ Below w7.heap.size w7 wr)
        (fun t _ => 3 - (intOf t).toNat)
      case atStart => exact ⟨0, by omega, rfl, Below.refl _ _⟩
      case round =>
        obtain ⟨q, hq, rfl, hBq⟩ := hrel
        have hBr := below_trans hB7 hBq
        by_cases hlt2 : q < 3
        · have A8 := A7.step hBq
          have B8 := B7.step hBq
          have C8 := C7.step hBq
          have T8 := T7.step hBq
          have x8 := (B8.cell q).trans (hcs_all h H hlt2)
          have z8 := (C8.cell q).trans (acs_all p hlt2)
          have hF := HFi.out q hlt2 a6 c6
          have hG := HGe.out q hlt2 a6 c6
          rw [(Hfind.out q hlt2).1, (Hfind.out q hlt2).2] at hF
          rw [(Hget.out q hlt2).1, (Hget.out q hlt2).2] at hG
          obtain ⟨Hq, eHq⟩ : ∃ x, H q = x := ⟨_, rfl⟩
          obtain ⟨pq, epq⟩ : ∃ x, p q = x := ⟨_, rfl⟩
          rw [eHq] at x8 hF
          rw [epq] at z8 hF hG
          obtain ⟨st, hst⟩ : ∃ st : Int, (if q = 1 then 9 else 0) = st := ⟨_, rfl⟩
          rw [hst] at hG
          have HF1 := Lib.hid hF
          have HG1 := Lib.hid hG
          have hC3 : Cells wr [(⟨S, 0, none⟩, .int .i64 (n : Int)), (⟨S, 1, none⟩, .slice a6 Z.length c6), (⟨w.heap.size, q, none⟩, .int .u32 (Hq : Int)), (⟨S + 1, q, none⟩, .int .i64 (pq : Int))] := ⟨A8.cell 0, A8.cell 1, x8, z8, trivial⟩
          have Hst := Lib.hid hst
          clear hF hG eHq epq hst A8 B8 C8
          go_wp2
          refine wp_region_seq 9 1 [(true, [true, true, true, true]), (false, [false, false, false, false, true]), (true, [false, false, false, false, false, true, true, true]), (false, [false, false, false, false, false, false, false, false, true])] _ _ (Keeps wr [(⟨S, 0, none⟩, .int .i64 (n : Int)), (⟨S, 1, none⟩, .slice a6 Z.length c6), (⟨w.heap.size, q, none⟩, .int .u32 (Hq : Int)), (⟨S + 1, q, none⟩, .int .i64 (pq : Int))]) (by kernel_rfl) (List.take_append_drop 9 _).symm (by kernel_rfl) (by kernel_rfl) (by kernel_rfl) (by kernel_rfl) (Keeps.start hC3) (fun Y Q4 F4 hY hF => ?_)
          simp only [phased, List.flatMap_cons, List.flatMap_nil, List.take_succ_cons, List.take_zero, List.drop_succ_cons, List.drop_zero, sel_true, sel_false, sel_nil, List.map_cons, List.map_nil, List.cons_append, List.nil_append, List.append_nil]
          repeat
            apply wpSeq_read (by first | rfl | (rw [hY]; rfl))
            · intro w2 hS2
              (try simp only [Keeps, Cells] at hS2)
              (try simp only [HasC, Cells] at hS2)
              go_simp
              with_reducible rfl
            simp only [Act.put, List.setIfInBounds_toArray, List.set_cons_zero, List.set_cons_succ]
          apply wpSeq_call (by first | rfl | (rw [hY]; rfl))
          · go_simp
            with_reducible exact ⟨rfl, rfl⟩
          refine (HF1.out _ (T8.step (Keeps.start hC3).1)).mono ?_
          rintro e w9 ⟨rfl, hb9⟩
          have hk9 := (Keeps.start hC3).step hb9
          refine ⟨_, rfl, hk9, ?_⟩
          simp only [Act.put, List.setIfInBounds_toArray, List.set_cons_zero, List.set_cons_succ]
          repeat
            apply wpSeq_read (by first | rfl | (rw [hY]; rfl))
            · intro w2 hS2
              (try simp only [Keeps, Cells] at hS2)
              (try simp only [HasC, Cells] at hS2)
              go_simp
              with_reducible rfl
            simp only [Act.put, List.setIfInBounds_toArray, List.set_cons_zero, List.set_cons_succ]
          refine wpSeq_value (by first | rfl | (rw [hY]; rfl)) (by go_simp; first | with_reducible exact ⟨rfl, rfl⟩ | with_reducible rfl) (hk9) ?_
          simp only [Act.put, List.setIfInBounds_toArray, List.set_cons_zero, List.set_cons_succ]
          refine wpSeq_done (hF.out _ _ (fun K hK => ?_))
          clear hF hY
          have hC9 : Cells w9 [(⟨S, 0, none⟩, .int .i64 (n : Int)), (⟨S, 1, none⟩, .slice a6 Z.length c6), (⟨w.heap.size, q, none⟩, .int .u32 (Hq : Int)), (⟨S + 1, q, none⟩, .int .i64 (pq : Int))] := hk9.2
          have T9 := T8.step hk9.1
          have hB9 := below_trans hBq hk9.1
          go_wp2_with fail
          refine OnlyK.mk (hK.out _ _ ?_)
          clear hK hk9 hb9
          go_wp2
          refine wp_region_seq 10 1 [(true, [true, true, true, true, true]), (false, [false, false, false, false, false, true]), (true, [false, false, false, false, false, false, true, true, true]), (false, [false, false, false, false, false, false, false, false, false, true])] _ _ (Keeps w9 [(⟨S, 0, none⟩, .int .i64 (n : Int)), (⟨S, 1, none⟩, .slice a6 Z.length c6), (⟨w.heap.size, q, none⟩, .int .u32 (Hq : Int)), (⟨S + 1, q, none⟩, .int .i64 (pq : Int))]) (by kernel_rfl) (List.take_append_drop 10 _).symm (by kernel_rfl) (by kernel_rfl) (by kernel_rfl) (by kernel_rfl) (Keeps.start hC9) (fun Y Q4 F4 hY hF => ?_)
          simp only [phased, List.flatMap_cons, List.flatMap_nil, List.take_succ_cons, List.take_zero, List.drop_succ_cons, List.drop_zero, sel_true, sel_false, sel_nil, List.map_cons, List.map_nil, List.cons_append, List.nil_append, List.append_nil]
          repeat
            apply wpSeq_read (by first | rfl | (rw [hY]; rfl))
            · intro w2 hS2
              (try simp only [Keeps, Cells] at hS2)
              (try simp only [HasC, Cells] at hS2)
              go_simp
              with_reducible rfl
            simp only [Act.put, List.setIfInBounds_toArray, List.set_cons_zero, List.set_cons_succ]
          apply wpSeq_call (by first | rfl | (rw [hY]; rfl))
          · go_simp
            with_reducible exact ⟨rfl, rfl⟩
          refine (HG1.out _ (T9.step (Keeps.start hC9).1)).mono ?_
          rintro e w10 ⟨rfl, hb10⟩
          have hk10 := (Keeps.start hC9).step hb10
          refine ⟨_, rfl, hk10, ?_⟩
          simp only [Act.put, List.setIfInBounds_toArray, List.set_cons_zero, List.set_cons_succ]
          repeat
            apply wpSeq_read (by first | rfl | (rw [hY]; rfl))
            · intro w2 hS2
              (try simp only [Keeps, Cells] at hS2)
              (try simp only [HasC, Cells] at hS2)
              go_simp
              with_reducible rfl
            simp only [Act.put, List.setIfInBounds_toArray, List.set_cons_zero, List.set_cons_succ]
          refine wpSeq_value (by first | rfl | (rw [hY]; rfl)) (by go_simp; first | with_reducible exact ⟨rfl, rfl⟩ | with_reducible rfl) (hk10) ?_
          simp only [Act.put, List.setIfInBounds_toArray, List.set_cons_zero, List.set_cons_succ]
          refine wpSeq_done (hF.out _ _ (fun K hK => ?_))
          clear hF hY
          have hB10 := below_trans hB9 hk10.1
          have z10 : w10.cell? ⟨S + 1, q, none⟩ = some (.int .i64 (pq : Int)) := hk10.2.2.2.2.1
          go_wp2_with fail
          refine OnlyK.mk (hK.out _ _ ?_)
          clear hK hk10 hb10 hC9 hC3
          by_cases eq1 : q = 1
          · obtain rfl : st = 9 := by rw [← Hst.out, if_pos eq1]
            have e1 : ((q : Int) == 1) = true := by simp; omega
            clear eq1
            go_wp2
            go_roundw
            case rel => exact ⟨q + 1, by omega, by simp, hB10⟩
            case measure => simp [intOf]; omega
          · obtain rfl : st = 0 := by rw [← Hst.out, if_neg eq1]
            have e1 : ((q : Int) == 1) = false := by simp; omega
            clear eq1
            go_wp2
            go_roundw
            case rel => exact ⟨q + 1, by omega, by simp, hB10⟩
            case measure => simp [intOf]; omega
        · obtain rfl : q = 3 := by omega
          go_wp2_with fail
          refine (HA.out _).mono ?_
          rintro e w12 ⟨rfl, hb12⟩
          have hB12 := below_trans hBr hb12
          go_wp2
          go_returns
          exact ⟨rfl, hB12⟩

set_option maxRecDepth 100000 in
set_option maxHeartbeats 1000000 in
theorem slotsSeparates_few (b nd x0 x1 x2 : Nat) (hb : b < 256) (hc : x0 / 16777216 = x1 / 16777216 ∨ x0 / 16777216 = x2 / 16777216 ∨ x1 / 16777216 = x2 / 16777216) (w : World) :
    Calls Try.prog 8 #[.int .u8 (b : Int), .int .u8 (nd : Int), .agg #[.int .u32 (x0 : Int), .int .u32 (x1 : Int), .int .u32 (x2 : Int)]] w fun e w' => e = .returned (.bool true) ∧ Below w.heap.size w w' := by
  have HA := Lib.hid awake10_any
  obtain ⟨n, hn⟩ : ∃ n, n = 2 + b % 4 := ⟨_, rfl⟩
  have en : 2 + (b : Int) % 4 = (n : Int) := by omega
  have hn5 : n ≤ 5 := by omega
  have H0 := Lib.hid fun W => new10_ok n (by omega) W
  obtain ⟨X0, hX0⟩ : ∃ X, List.replicate (16 * 2 ^ n) (0 : Int) = X := ⟨_, rfl⟩
  rw [hX0] at H0
  clear hn hX0
  unfold tabV at *
  obtain ⟨w0, hw0⟩ : ∃ w0, w.alloc (Obj.cells #[.int .u32 (x0 : Int), .int .u32 (x1 : Int), .int .u32 (x2 : Int)] 60) = w0 := ⟨_, rfl⟩
  have hB0 : Below w.heap.size w w0 := by rw [← hw0]; exact (Below.refl _ w).alloc (Nat.le_refl _) _
  have b0 : Blk w0 w.heap.size [.int .u32 (x0 : Int), .int .u32 (x1 : Int), .int .u32 (x2 : Int)] 60 := by rw [← hw0]; exact Blk.new w _ _
  have hd : ((x0 : Int) / 16777216 == (x1 : Int) / 16777216) = true ∨ (((x0 : Int) / 16777216 == (x1 : Int) / 16777216) = false ∧ ((x0 : Int) / 16777216 == (x2 : Int) / 16777216) = true) ∨
      (((x0 : Int) / 16777216 == (x1 : Int) / 16777216) = false ∧ ((x0 : Int) / 16777216 == (x2 : Int) / 16777216) = false ∧ ((x1 : Int) / 16777216 == (x2 : Int) / 16777216) = true) := by
    simp only [beq_iff_eq, beq_eq_false_iff_ne, ne_eq]
    omega
  clear hc
  rcases hd with d0 | ⟨d0, d1⟩ | ⟨d0, d1, d2⟩
  all_goals
    go_enter Try.func8, Try.ntmps8
    go_wp2_with fail
    refine (H0.out _).mono ?_
    rintro e w1 ⟨a1, c1, rfl, hT1, hF1, hb1⟩
    have hB1 := below_trans hB0 hb1
    have B1 := b0.step hb1
    have q0 := B1.cell 0
    have q1 := B1.cell 1
    have q2 := B1.cell 2
    have lB := B1.lt
    simp only [List.getElem?_cons_zero, List.getElem?_cons_succ] at q0 q1 q2
    have hBa := hB1.alloc hB1.size (Obj.cells #[.int .i64 (n : Int), .slice a1 X0.length c1] 26)
    go_wp2_with fail
    refine (HA.out _).mono ?_
    rintro e w2 ⟨rfl, hb2⟩
    have hB2 := below_trans hBa hb2
    go_wp2
    go_returns
    exact ⟨rfl, hB2⟩

theorem slotsSeparates_any (b nd x0 x1 x2 : Nat) (hb : b < 256) (hnd : nd < 256) (h0 : x0 < 4294967296) (h1 : x1 < 4294967296) (h2 : x2 < 4294967296) (w : World) :
    Calls Try.prog 8 #[.int .u8 (b : Int), .int .u8 (nd : Int), .agg #[.int .u32 (x0 : Int), .int .u32 (x1 : Int), .int .u32 (x2 : Int)]] w fun e w' => e = .returned (.bool true) ∧ Below w.heap.size w w' := by
  by_cases hc : x0 / 16777216 = x1 / 16777216 ∨ x0 / 16777216 = x2 / 16777216 ∨ x1 / 16777216 = x2 / 16777216
  · exact slotsSeparates_few b nd x0 x1 x2 hb hc w
  · refine slotsSeparates_main b nd hb hnd (fun t => if t = 0 then x0 else if t = 1 then x1 else x2) (fun t ht => ?_) (fun s t hs ht hne => ?_) w
    · rcases three ht with rfl | rfl | rfl
      · exact h0
      · exact h1
      · exact h2
    · rcases three hs with rfl | rfl | rfl <;> rcases three ht with rfl | rfl | rfl <;> simp at hne ⊢ <;> omega
end Go.Proofs.Ytgbjckjfjoiilaa
