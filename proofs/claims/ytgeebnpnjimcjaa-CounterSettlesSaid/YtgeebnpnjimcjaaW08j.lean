/- The law CounterOrders at every input. No condition. -/
import Derived.Test.YtgeebnpnjimcjaaW08g
import Derived.Test.YtgeebnpnjimcjaaSpec08b
set_option linter.unusedSimpArgs false
set_option linter.unusedVariables false
set_option linter.unusedSectionVars false
namespace Go.Proofs.Ytgeebnpnjimcjaa
open Go.RowKit

theorem S08.next_mono {limit P Q N : Int} {b : Bool} (hn : 0 ≤ N) (h : P ≤ Q) : (S08.next limit (P, N) b).1 ≤ (S08.next limit (Q, N) b).1 ∧ (S08.next limit (P, N) b).2 = (S08.next limit (Q, N) b).2 :=
  ⟨S08.towards_mono hn h, rfl⟩
theorem S08.run_mono {limit p q : Int} (hl : 1 ≤ limit) (h : p ≤ q) (bs : List Bool) : (S08.run p limit bs).1 ≤ (S08.run q limit bs).1 ∧ (S08.run p limit bs).2 = (S08.run q limit bs).2 ∧ 0 ≤ (S08.run p limit bs).2 := by
  have : ∀ (bs : List Bool) (c d : Int × Int), c.1 ≤ d.1 → c.2 = d.2 → 0 ≤ c.2 → (bs.foldl (S08.next limit) c).1 ≤ (bs.foldl (S08.next limit) d).1 ∧ (bs.foldl (S08.next limit) c).2 = (bs.foldl (S08.next limit) d).2 ∧ 0 ≤ (bs.foldl (S08.next limit) c).2 := by
    intro bs
    induction bs with
    | nil => exact fun c d h1 h2 h3 => ⟨h1, h2, h3⟩
    | cons b bs ih =>
      intro c d h1 h2 h3
      obtain ⟨P, N⟩ := c
      obtain ⟨Q, M⟩ := d
      simp only at h1 h2 h3
      subst h2
      have hm := S08.next_mono (limit := limit) (b := b) h3 h1
      exact ih _ _ hm.1 hm.2 (by simp only [S08.next]; omega)
  exact this bs (p, 0) (q, 0) h rfl (by simp)

set_option maxHeartbeats 1000000 in
theorem counterOrders_lt (p q : Int) (a : Option Addr) (bs : List Bool) (cap : Nat) (w : World) (hpq : p < q) (hp : 0 ≤ p) (hp' : p ≤ 65535) (hq : 0 ≤ q) (hq' : q ≤ 65535) (hlen : bs.length ≤ 9223372036854775807)
    (hrd : Rd w a (Bools bs)) (hshort : bs.length ≤ 300) :
    Calls Try.prog 7 #[.int .u16 p, .int .u16 q, .slice a bs.length cap] w fun e w' => e = .returned (.bool true) ∧ Below w.heap.size w w' := by
  have hl3 : ¬ (300 : Int) < (bs.length : Int) := by omega
  have hlh : p ≤ q := by omega
  go_enter Try.func7, Try.ntmps7
  go_wp2_with fail
  go_loopw [7] (fun v wr => ∃ m : Int, (m = 1 ∨ m = 4 ∨ m = 16 ∨ m = 64 ∨ m = 256) ∧ v = .int .i64 m ∧ Below w.heap.size w wr) (fun v _ => 256 - (intOf v).toNat)
  case atStart => exact ⟨1, .inl rfl, rfl, Below.refl _ _⟩
  case round =>
    rename_i wr _
    obtain ⟨m, hm, rfl, hB⟩ := hrel
    have zr : w.heap.size ≤ wr.heap.size := hB.size
    have hm1 : 1 ≤ m := by omega
    have hm2 : m ≤ 256 := by omega
    have hm3 : m ≤ 64 → (4 * m = 1 ∨ 4 * m = 4 ∨ 4 * m = 16 ∨ 4 * m = 64 ∨ 4 * m = 256) := by omega
    clear hm
    by_cases hlt : m ≤ 64
    · have Hm := Lib.hid (hm3 hlt)
      clear hm3
      have hrd1 : Rd wr a (Bools bs) := hrd.step hB
      have hmono := S08.run_mono hm1 hlh bs
      have hk1 := S08.run_ok (limit := m) (p := p) (by omega) (by omega) hm1 bs
      have hk2 := S08.run_ok (limit := m) (p := q) (by omega) (by omega) hm1 bs
      have hpm := S08.predict_mono hk1.1 hmono.1 hk2.2.1 hk1.2.2.1
      rw [show S08.predict (S08.run q m bs).1 (S08.run p m bs).2 = S08.predict (S08.run q m bs).1 (S08.run q m bs).2 by rw [hmono.2.1]] at hpm
      have h1 := hmono.1
      clear hmono
      have hA := Lib.hid (after08_any p m a bs cap wr (by omega) (by omega) hm1 (by omega) hlen hrd1)
      have hA2 : ∀ w3, Below wr.heap.size wr w3 → ∀ o, Calls Try.prog 19 #[.int .u16 q, .slice a bs.length cap, .int .i64 m] (w3.alloc o) fun e w' => e = .returned (.tuple #[.agg #[.int .i64 (S08.run q m bs).1, .int .i64 (S08.run q m bs).2], .bool true]) ∧ Below (w3.alloc o).heap.size (w3.alloc o) w' :=
        fun w3 hb o => after08_any q m a bs cap _ (by omega) (by omega) hm1 (by omega) hlen ((hrd1.step hb).step ((Below.refl w3.heap.size w3).alloc (Nat.le_refl _) o))
      have HA2 := Lib.hid hA2
      clear hA2 hrd1
      generalize hx : (S08.run p m bs).1 = P at *
      generalize hx' : (S08.run p m bs).2 = N at *
      generalize hy : (S08.run q m bs).1 = P2 at *
      generalize hy' : (S08.run q m bs).2 = N2 at *
      clear hx hx' hy hy'
      go_wp2_with fail
      refine hA.out.mono ?_
      rintro e w1 ⟨rfl, hb1⟩
      have hB1 : Below w.heap.size w w1 := below_trans hB hb1
      have z1 : w.heap.size ≤ w1.heap.size := hB1.size
      go_wp2_with fail
      refine (HA2.out _ hb1 _).mono ?_
      rintro e w2 ⟨rfl, hb2⟩
      have hB2 : Below w.heap.size w w2 := below_trans (by go_grown) hb2
      have z2 : w.heap.size ≤ w2.heap.size := hB2.size
      have s12 : w1.heap.size < w2.heap.size := by have := hb2.size; simp at this; omega
      have k1 : w2.cell? ⟨w1.heap.size, 0, none⟩ = some (.int .i64 P) := (hb2.cell (by simp <;> omega)).trans (by go_simp)
      have k2 : w2.cell? ⟨w1.heap.size, 1, none⟩ = some (.int .i64 N) := (hb2.cell (by simp <;> omega)).trans (by go_simp)
      go_wp2
      refine wp_region_all 20 (Keeps (w2.alloc (Obj.cells #[.int .i64 P2, .int .i64 N2] 23)) [(⟨w1.heap.size, 0, none⟩, .int .i64 P), (⟨w1.heap.size, 1, none⟩, .int .i64 N), (⟨w2.heap.size, 0, none⟩, .int .i64 P2), (⟨w2.heap.size, 1, none⟩, .int .i64 N2)]) (by kernel_rfl) rfl (by kernel_rfl) (Keeps.start (by simp only [Cells]; refine ⟨?_, ?_, ?_, ?_, trivial⟩ <;> go_simp)) (fun Y F hY hF => ?_)
      have hgt : decide (P2 < P) = false := by simp; omega
      have hgt2 : decide (S08.predict P2 N2 < S08.predict P N) = false := by simp; omega
      repeat
        apply wpSteady_value (by first | rfl | (rw [hY]; rfl))
        · intro w2 ⟨hB2, hk2⟩
          simp only [Cells] at hk2
          go_simp
          with_reducible rfl
        simp only [Act.put, List.setIfInBounds_toArray, List.set_cons_zero, List.set_cons_succ]
      apply wpSteady_call (by first | rfl | (rw [hY]; rfl))
      · intro w2 ⟨hB2, hk2⟩
        simp only [Cells] at hk2
        go_simp
        with_reducible exact ⟨rfl, rfl⟩
      · intro w2 hS2
        have hk2 := hS2.2
        simp only [Cells] at hk2
        refine (predict08_any _ _ _).mono ?_
        rintro e w3 ⟨rfl, hb3⟩
        exact ⟨rfl, hS2.step hb3⟩
      simp only [Act.put, List.setIfInBounds_toArray, List.set_cons_zero, List.set_cons_succ]
      repeat
        apply wpSteady_value (by first | rfl | (rw [hY]; rfl))
        · intro w2 ⟨hB2, hk2⟩
          simp only [Cells] at hk2
          go_simp
          with_reducible rfl
        simp only [Act.put, List.setIfInBounds_toArray, List.set_cons_zero, List.set_cons_succ]
      apply wpSteady_call (by first | rfl | (rw [hY]; rfl))
      · intro w2 ⟨hB2, hk2⟩
        simp only [Cells] at hk2
        go_simp
        with_reducible exact ⟨rfl, rfl⟩
      · intro w2 hS2
        have hk2 := hS2.2
        simp only [Cells] at hk2
        refine (predict08_any _ _ _).mono ?_
        rintro e w3 ⟨rfl, hb3⟩
        exact ⟨rfl, hS2.step hb3⟩
      simp only [Act.put, List.setIfInBounds_toArray, List.set_cons_zero, List.set_cons_succ]
      repeat
        apply wpSteady_value (by first | rfl | (rw [hY]; rfl))
        · intro w2 ⟨hB2, hk2⟩
          simp only [Cells] at hk2
          go_simp
          with_reducible rfl
        simp only [Act.put, List.setIfInBounds_toArray, List.set_cons_zero, List.set_cons_succ]
      refine hF.out _ (fun w4 hS4 => ?_)
      clear hF hY
      have hB4 : Below w.heap.size w w4 := below_trans (by go_grown) hS4.1
      go_wp2
      go_roundw
      case rel => exact ⟨4 * m, Hm.out, rfl, hB4⟩
      case measure => simp [intOf]; omega
    · clear hm3
      go_wp2_with fail
      refine (awake08_any _).mono ?_
      rintro e w1 ⟨rfl, hb1⟩
      have hB1 : Below w.heap.size w w1 := below_trans hB hb1
      go_wp2
      go_returns
      exact ⟨rfl, hB1⟩

set_option maxHeartbeats 1000000 in
theorem counterOrders_eq (p : Int) (a : Option Addr) (bs : List Bool) (cap : Nat) (w : World) (hp : 0 ≤ p) (hp' : p ≤ 65535) (hlen : bs.length ≤ 9223372036854775807)
    (hrd : Rd w a (Bools bs)) (hshort : bs.length ≤ 300) :
    Calls Try.prog 7 #[.int .u16 p, .int .u16 p, .slice a bs.length cap] w fun e w' => e = .returned (.bool true) ∧ Below w.heap.size w w' := by
  have hl3 : ¬ (300 : Int) < (bs.length : Int) := by omega
  have hlh : p ≤ p := by omega
  go_enter Try.func7, Try.ntmps7
  go_wp2_with fail
  go_loopw [7] (fun v wr => ∃ m : Int, (m = 1 ∨ m = 4 ∨ m = 16 ∨ m = 64 ∨ m = 256) ∧ v = .int .i64 m ∧ Below w.heap.size w wr) (fun v _ => 256 - (intOf v).toNat)
  case atStart => exact ⟨1, .inl rfl, rfl, Below.refl _ _⟩
  case round =>
    rename_i wr _
    obtain ⟨m, hm, rfl, hB⟩ := hrel
    have zr : w.heap.size ≤ wr.heap.size := hB.size
    have hm1 : 1 ≤ m := by omega
    have hm2 : m ≤ 256 := by omega
    have hm3 : m ≤ 64 → (4 * m = 1 ∨ 4 * m = 4 ∨ 4 * m = 16 ∨ 4 * m = 64 ∨ 4 * m = 256) := by omega
    clear hm
    by_cases hlt : m ≤ 64
    · have Hm := Lib.hid (hm3 hlt)
      clear hm3
      have hrd1 : Rd wr a (Bools bs) := hrd.step hB
      have hmono := S08.run_mono hm1 hlh bs
      have hk1 := S08.run_ok (limit := m) (p := p) (by omega) (by omega) hm1 bs
      have hk2 := S08.run_ok (limit := m) (p := p) (by omega) (by omega) hm1 bs
      have hpm := S08.predict_mono hk1.1 hmono.1 hk2.2.1 hk1.2.2.1
      rw [show S08.predict (S08.run p m bs).1 (S08.run p m bs).2 = S08.predict (S08.run p m bs).1 (S08.run p m bs).2 by rw [hmono.2.1]] at hpm
      have h1 := hmono.1
      clear hmono
      have hA := Lib.hid (after08_any p m a bs cap wr (by omega) (by omega) hm1 (by omega) hlen hrd1)
      have hA2 : ∀ w3, Below wr.heap.size wr w3 → ∀ o, Calls Try.prog 19 #[.int .u16 p, .slice a bs.length cap, .int .i64 m] (w3.alloc o) fun e w' => e = .returned (.tuple #[.agg #[.int .i64 (S08.run p m bs).1, .int .i64 (S08.run p m bs).2], .bool true]) ∧ Below (w3.alloc o).heap.size (w3.alloc o) w' :=
        fun w3 hb o => after08_any p m a bs cap _ (by omega) (by omega) hm1 (by omega) hlen ((hrd1.step hb).step ((Below.refl w3.heap.size w3).alloc (Nat.le_refl _) o))
      have HA2 := Lib.hid hA2
      clear hA2 hrd1
      generalize hx : (S08.run p m bs).1 = P at *
      generalize hx' : (S08.run p m bs).2 = N at *
      clear hx hx'
      go_wp2_with fail
      refine hA.out.mono ?_
      rintro e w1 ⟨rfl, hb1⟩
      have hB1 : Below w.heap.size w w1 := below_trans hB hb1
      have z1 : w.heap.size ≤ w1.heap.size := hB1.size
      go_wp2_with fail
      refine (HA2.out _ hb1 _).mono ?_
      rintro e w2 ⟨rfl, hb2⟩
      have hB2 : Below w.heap.size w w2 := below_trans (by go_grown) hb2
      have z2 : w.heap.size ≤ w2.heap.size := hB2.size
      have s12 : w1.heap.size < w2.heap.size := by have := hb2.size; simp at this; omega
      have k3 : w2.cell? ⟨w1.heap.size, 0, none⟩ = some (.int .i64 P) := (hb2.cell (by simp <;> omega)).trans (by go_simp)
      have k4 : w2.cell? ⟨w1.heap.size, 1, none⟩ = some (.int .i64 N) := (hb2.cell (by simp <;> omega)).trans (by go_simp)
      go_wp2
      refine wp_region_all 20 (Keeps (w2.alloc (Obj.cells #[.int .i64 P, .int .i64 N] 23)) [(⟨w1.heap.size, 0, none⟩, .int .i64 P), (⟨w1.heap.size, 1, none⟩, .int .i64 N), (⟨w2.heap.size, 0, none⟩, .int .i64 P), (⟨w2.heap.size, 1, none⟩, .int .i64 N)]) (by kernel_rfl) rfl (by kernel_rfl) (Keeps.start (by simp only [Cells]; refine ⟨?_, ?_, ?_, ?_, trivial⟩ <;> go_simp)) (fun Y F hY hF => ?_)
      repeat
        apply wpSteady_value (by first | rfl | (rw [hY]; rfl))
        · intro w2 ⟨hB2, hk2⟩
          simp only [Cells] at hk2
          go_simp
          with_reducible rfl
        simp only [Act.put, List.setIfInBounds_toArray, List.set_cons_zero, List.set_cons_succ]
      apply wpSteady_call (by first | rfl | (rw [hY]; rfl))
      · intro w2 ⟨hB2, hk2⟩
        simp only [Cells] at hk2
        go_simp
        with_reducible exact ⟨rfl, rfl⟩
      · intro w2 hS2
        have hk2 := hS2.2
        simp only [Cells] at hk2
        refine (predict08_any _ _ _).mono ?_
        rintro e w3 ⟨rfl, hb3⟩
        exact ⟨rfl, hS2.step hb3⟩
      simp only [Act.put, List.setIfInBounds_toArray, List.set_cons_zero, List.set_cons_succ]
      repeat
        apply wpSteady_value (by first | rfl | (rw [hY]; rfl))
        · intro w2 ⟨hB2, hk2⟩
          simp only [Cells] at hk2
          go_simp
          with_reducible rfl
        simp only [Act.put, List.setIfInBounds_toArray, List.set_cons_zero, List.set_cons_succ]
      apply wpSteady_call (by first | rfl | (rw [hY]; rfl))
      · intro w2 ⟨hB2, hk2⟩
        simp only [Cells] at hk2
        go_simp
        with_reducible exact ⟨rfl, rfl⟩
      · intro w2 hS2
        have hk2 := hS2.2
        simp only [Cells] at hk2
        refine (predict08_any _ _ _).mono ?_
        rintro e w3 ⟨rfl, hb3⟩
        exact ⟨rfl, hS2.step hb3⟩
      simp only [Act.put, List.setIfInBounds_toArray, List.set_cons_zero, List.set_cons_succ]
      repeat
        apply wpSteady_value (by first | rfl | (rw [hY]; rfl))
        · intro w2 ⟨hB2, hk2⟩
          simp only [Cells] at hk2
          go_simp
          with_reducible rfl
        simp only [Act.put, List.setIfInBounds_toArray, List.set_cons_zero, List.set_cons_succ]
      refine hF.out _ (fun w4 hS4 => ?_)
      clear hF hY
      have hB4 : Below w.heap.size w w4 := below_trans (by go_grown) hS4.1
      go_wp2
      go_roundw
      case rel => exact ⟨4 * m, Hm.out, rfl, hB4⟩
      case measure => simp [intOf]; omega
    · clear hm3
      go_wp2_with fail
      refine (awake08_any _).mono ?_
      rintro e w1 ⟨rfl, hb1⟩
      have hB1 : Below w.heap.size w w1 := below_trans hB hb1
      go_wp2
      go_returns
      exact ⟨rfl, hB1⟩

set_option maxHeartbeats 1000000 in
theorem counterOrders_gt (p q : Int) (a : Option Addr) (bs : List Bool) (cap : Nat) (w : World) (hpq : q < p) (hp : 0 ≤ p) (hp' : p ≤ 65535) (hq : 0 ≤ q) (hq' : q ≤ 65535) (hlen : bs.length ≤ 9223372036854775807)
    (hrd : Rd w a (Bools bs)) (hshort : bs.length ≤ 300) :
    Calls Try.prog 7 #[.int .u16 p, .int .u16 q, .slice a bs.length cap] w fun e w' => e = .returned (.bool true) ∧ Below w.heap.size w w' := by
  have hl3 : ¬ (300 : Int) < (bs.length : Int) := by omega
  have hlh : q ≤ p := by omega
  go_enter Try.func7, Try.ntmps7
  go_wp2_with fail
  go_loopw [7] (fun v wr => ∃ m : Int, (m = 1 ∨ m = 4 ∨ m = 16 ∨ m = 64 ∨ m = 256) ∧ v = .int .i64 m ∧ Below w.heap.size w wr) (fun v _ => 256 - (intOf v).toNat)
  case atStart => exact ⟨1, .inl rfl, rfl, Below.refl _ _⟩
  case round =>
    rename_i wr _
    obtain ⟨m, hm, rfl, hB⟩ := hrel
    have zr : w.heap.size ≤ wr.heap.size := hB.size
    have hm1 : 1 ≤ m := by omega
    have hm2 : m ≤ 256 := by omega
    have hm3 : m ≤ 64 → (4 * m = 1 ∨ 4 * m = 4 ∨ 4 * m = 16 ∨ 4 * m = 64 ∨ 4 * m = 256) := by omega
    clear hm
    by_cases hlt : m ≤ 64
    · have Hm := Lib.hid (hm3 hlt)
      clear hm3
      have hrd1 : Rd wr a (Bools bs) := hrd.step hB
      have hmono := S08.run_mono hm1 hlh bs
      have hk1 := S08.run_ok (limit := m) (p := q) (by omega) (by omega) hm1 bs
      have hk2 := S08.run_ok (limit := m) (p := p) (by omega) (by omega) hm1 bs
      have hpm := S08.predict_mono hk1.1 hmono.1 hk2.2.1 hk1.2.2.1
      rw [show S08.predict (S08.run p m bs).1 (S08.run q m bs).2 = S08.predict (S08.run p m bs).1 (S08.run p m bs).2 by rw [hmono.2.1]] at hpm
      have h1 := hmono.1
      clear hmono
      have hA := Lib.hid (after08_any q m a bs cap wr (by omega) (by omega) hm1 (by omega) hlen hrd1)
      have hA2 : ∀ w3, Below wr.heap.size wr w3 → ∀ o, Calls Try.prog 19 #[.int .u16 p, .slice a bs.length cap, .int .i64 m] (w3.alloc o) fun e w' => e = .returned (.tuple #[.agg #[.int .i64 (S08.run p m bs).1, .int .i64 (S08.run p m bs).2], .bool true]) ∧ Below (w3.alloc o).heap.size (w3.alloc o) w' :=
        fun w3 hb o => after08_any p m a bs cap _ (by omega) (by omega) hm1 (by omega) hlen ((hrd1.step hb).step ((Below.refl w3.heap.size w3).alloc (Nat.le_refl _) o))
      have HA2 := Lib.hid hA2
      clear hA2 hrd1
      generalize hx : (S08.run q m bs).1 = P at *
      generalize hx' : (S08.run q m bs).2 = N at *
      generalize hy : (S08.run p m bs).1 = P2 at *
      generalize hy' : (S08.run p m bs).2 = N2 at *
      clear hx hx' hy hy'
      go_wp2_with fail
      refine hA.out.mono ?_
      rintro e w1 ⟨rfl, hb1⟩
      have hB1 : Below w.heap.size w w1 := below_trans hB hb1
      have z1 : w.heap.size ≤ w1.heap.size := hB1.size
      go_wp2_with fail
      refine (HA2.out _ hb1 _).mono ?_
      rintro e w2 ⟨rfl, hb2⟩
      have hB2 : Below w.heap.size w w2 := below_trans (by go_grown) hb2
      have z2 : w.heap.size ≤ w2.heap.size := hB2.size
      have s12 : w1.heap.size < w2.heap.size := by have := hb2.size; simp at this; omega
      have k5 : w2.cell? ⟨w1.heap.size, 0, none⟩ = some (.int .i64 P) := (hb2.cell (by simp <;> omega)).trans (by go_simp)
      have k6 : w2.cell? ⟨w1.heap.size, 1, none⟩ = some (.int .i64 N) := (hb2.cell (by simp <;> omega)).trans (by go_simp)
      go_wp2
      refine wp_region_all 20 (Keeps (w2.alloc (Obj.cells #[.int .i64 P2, .int .i64 N2] 23)) [(⟨w1.heap.size, 0, none⟩, .int .i64 P), (⟨w1.heap.size, 1, none⟩, .int .i64 N), (⟨w2.heap.size, 0, none⟩, .int .i64 P2), (⟨w2.heap.size, 1, none⟩, .int .i64 N2)]) (by kernel_rfl) rfl (by kernel_rfl) (Keeps.start (by simp only [Cells]; refine ⟨?_, ?_, ?_, ?_, trivial⟩ <;> go_simp)) (fun Y F hY hF => ?_)
      have hgt : decide (P2 < P) = false := by simp; omega
      have hgt2 : decide (S08.predict P2 N2 < S08.predict P N) = false := by simp; omega
      repeat
        apply wpSteady_value (by first | rfl | (rw [hY]; rfl))
        · intro w2 ⟨hB2, hk2⟩
          simp only [Cells] at hk2
          go_simp
          with_reducible rfl
        simp only [Act.put, List.setIfInBounds_toArray, List.set_cons_zero, List.set_cons_succ]
      apply wpSteady_call (by first | rfl | (rw [hY]; rfl))
      · intro w2 ⟨hB2, hk2⟩
        simp only [Cells] at hk2
        go_simp
        with_reducible exact ⟨rfl, rfl⟩
      · intro w2 hS2
        have hk2 := hS2.2
        simp only [Cells] at hk2
        refine (predict08_any _ _ _).mono ?_
        rintro e w3 ⟨rfl, hb3⟩
        exact ⟨rfl, hS2.step hb3⟩
      simp only [Act.put, List.setIfInBounds_toArray, List.set_cons_zero, List.set_cons_succ]
      repeat
        apply wpSteady_value (by first | rfl | (rw [hY]; rfl))
        · intro w2 ⟨hB2, hk2⟩
          simp only [Cells] at hk2
          go_simp
          with_reducible rfl
        simp only [Act.put, List.setIfInBounds_toArray, List.set_cons_zero, List.set_cons_succ]
      apply wpSteady_call (by first | rfl | (rw [hY]; rfl))
      · intro w2 ⟨hB2, hk2⟩
        simp only [Cells] at hk2
        go_simp
        with_reducible exact ⟨rfl, rfl⟩
      · intro w2 hS2
        have hk2 := hS2.2
        simp only [Cells] at hk2
        refine (predict08_any _ _ _).mono ?_
        rintro e w3 ⟨rfl, hb3⟩
        exact ⟨rfl, hS2.step hb3⟩
      simp only [Act.put, List.setIfInBounds_toArray, List.set_cons_zero, List.set_cons_succ]
      repeat
        apply wpSteady_value (by first | rfl | (rw [hY]; rfl))
        · intro w2 ⟨hB2, hk2⟩
          simp only [Cells] at hk2
          go_simp
          with_reducible rfl
        simp only [Act.put, List.setIfInBounds_toArray, List.set_cons_zero, List.set_cons_succ]
      refine hF.out _ (fun w4 hS4 => ?_)
      clear hF hY
      have hB4 : Below w.heap.size w w4 := below_trans (by go_grown) hS4.1
      go_wp2
      go_roundw
      case rel => exact ⟨4 * m, Hm.out, rfl, hB4⟩
      case measure => simp [intOf]; omega
    · clear hm3
      go_wp2_with fail
      refine (awake08_any _).mono ?_
      rintro e w1 ⟨rfl, hb1⟩
      have hB1 : Below w.heap.size w w1 := below_trans hB hb1
      go_wp2
      go_returns
      exact ⟨rfl, hB1⟩

theorem counterOrders_any (p q : Int) (a : Option Addr) (bs : List Bool) (cap : Nat) (w : World) (hp : 0 ≤ p) (hp' : p ≤ 65535) (hq : 0 ≤ q) (hq' : q ≤ 65535) (hlen : bs.length ≤ 9223372036854775807)
    (hrd : Rd w a (Bools bs)) :
    Calls Try.prog 7 #[.int .u16 p, .int .u16 q, .slice a bs.length cap] w fun e w' => e = .returned (.bool true) ∧ Below w.heap.size w w' := by
  by_cases hlong : 300 < bs.length
  · have hl3 : (300 : Int) < (bs.length : Int) := by omega
    go_enter Try.func7, Try.ntmps7
    go_wp2_with fail
    refine (awake08_any _).mono ?_
    rintro e w1 ⟨rfl, hb1⟩
    have hB1 : Below w.heap.size w w1 := below_trans (by go_grown) hb1
    have z1 : w.heap.size ≤ w1.heap.size := hB1.size
    go_wp2
    go_returns
    exact ⟨rfl, hB1⟩
  · rcases Int.lt_trichotomy p q with h | rfl | h
    · exact counterOrders_lt p q a bs cap w h hp hp' hq hq' hlen hrd (by omega)
    · exact counterOrders_eq p a bs cap w hp hp' hlen hrd (by omega)
    · exact counterOrders_gt p q a bs cap w h hp hp' hq hq' hlen hrd (by omega)

end Go.Proofs.Ytgeebnpnjimcjaa
