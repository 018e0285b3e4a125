/- The reference's Copy, Priority, exists, Get and New (layer 10). The reference's Get, Set and New (layer 10). The reference's Set (layer 10). No condition. -/
import Derived.Test.YtgbjckjfjoiilaaW10u
set_option linter.unusedSimpArgs false
set_option linter.unusedVariables false
set_option linter.unusedSectionVars false
namespace Go.Proofs.Ytgbjckjfjoiilaa
open Go.RowKit

set_option maxHeartbeats 1000000 in
theorem rcopy10_any (bits : Int) (xs : List Int) (a : Option Addr) (cap : Nat) (w : World) (h1 : 1 ≤ xs.length) (h2 : xs.length ≤ 2162688) (hrd : Rd w a (Bts xs)) :
    Calls Try.prog 55 #[tabV bits xs a cap] w fun e w' => ∃ b cap', e = .returned (tabV bits xs (some ⟨b, 0, none⟩) cap') ∧ OB w' w.heap.size b cap' xs ∧ Below w.heap.size w w' := by
  unfold tabV
  go_enter Try.func55, Try.ntmps55
  go_wp2
  obtain ⟨w0, hw0⟩ : ∃ w0, (w.alloc (Obj.cells #[.int .i64 bits, .slice a xs.length cap] 26)).alloc (Obj.cells #[.int .i64 0, .slice none 0 0] 26) = w0 := ⟨_, rfl⟩
  have hB0 : Below w.heap.size w w0 := by rw [← hw0]; go_grown
  have a1 : Blk w0 w.heap.size [.int .i64 bits, .slice a xs.length cap] 26 := by rw [← hw0]; exact (Blk.new w _ _).alloc _
  have a2 : Blk w0 (w.heap.size + 1) [.int .i64 0, .slice none 0 0] 26 := by
    have h := Blk.new (w.alloc (Obj.cells #[.int .i64 bits, .slice a xs.length cap] 26)) [.int .i64 0, .slice none 0 0] 26
    rw [← hw0]; simpa using h
  rw [hw0]
  have z0 : w.heap.size + 1 < w0.heap.size := a2.lt
  clear hw0
  have hCS : Cells w0 [(⟨w.heap.size, 0, none⟩, .int .i64 bits), (⟨w.heap.size, 1, none⟩, .slice a xs.length cap)] := ⟨a1.cell 0, a1.cell 1, trivial⟩
  refine wp_region_seq 7 1 [(true, [true, true, true, true, true]), (false, [false, false, false, false, false, true]), (true, [false, false, false, false, false, false, true])] _ _ (Keeps w0 [(⟨w.heap.size, 0, none⟩, .int .i64 bits), (⟨w.heap.size, 1, none⟩, .slice a xs.length cap)]) (by kernel_rfl) (List.take_append_drop 7 _).symm (by kernel_rfl) (by kernel_rfl) (by kernel_rfl) (by kernel_rfl) (Keeps.start hCS) (fun Y Q4 F4 hY hF => ?_)
  simp only [phased, List.flatMap_cons, List.flatMap_nil, List.take_succ_cons, List.take_zero, List.drop_succ_cons, List.drop_zero, sel_true, sel_false, sel_nil, List.map_cons, List.map_nil, List.cons_append, List.nil_append, List.append_nil]
  repeat
    apply wpSeq_read (by first | rfl | (rw [hY]; rfl))
    · intro w2 hS2
      (try simp only [Keeps, Cells] at hS2)
      (try simp only [HasC, Cells] at hS2)
      go_simp
      with_reducible rfl
    simp only [Act.put, List.setIfInBounds_toArray, List.set_cons_zero, List.set_cons_succ]
  refine wpSeq_append (.tmp 6) (.tmp 8) 24 5 1 1 _ w0.heap.size elems_bytes (.slice none 0 0) 0 [] a xs.length cap (Bts xs) (by first | rfl | (rw [hY]; rfl)) rfl rfl rfl (by rw [Bts_length]; omega)
    (Bts_one _) (by unfold maxLen; omega) (by omega) (World.ownsRow_nil _ _ _ _) ((hrd.step hB0).step (Keeps.start hCS).1) (Nat.le_refl _) ?_
  intro a3 cap3 w3 hown3 hgrow3
  simp only [Nat.zero_add, List.nil_append] at hown3 ⊢
  have hB3 : Below w0.heap.size w0 w3 := Below.grown (B := w0.heap.size) (Keeps.start hCS).1 hgrow3 (Nat.le_refl _) (fun j e => by cases e)
  obtain ⟨b3, rfl, hb3, hok3⟩ := OB.of_owns (base' := w.heap.size) hown3 h1 (by omega)
  have hk3 : Keeps w0 [(⟨w.heap.size, 0, none⟩, .int .i64 bits), (⟨w.heap.size, 1, none⟩, .slice a xs.length cap)] w3 := ⟨hB3, by
    have e1 := a1.step hB3
    exact ⟨e1.cell 0, e1.cell 1, trivial⟩⟩
  refine ⟨hk3, ?_⟩
  simp only [Act.put, List.setIfInBounds_toArray, List.set_cons_zero, List.set_cons_succ]
  repeat
    apply wpSeq_read (by first | rfl | (rw [hY]; rfl))
    · intro w2 hS2
      (try simp only [Keeps, Cells] at hS2)
      (try simp only [HasC, Cells] at hS2)
      go_simp
      with_reducible rfl
    simp only [Act.put, List.setIfInBounds_toArray, List.set_cons_zero, List.set_cons_succ]
  refine wpSeq_done (hF.out _ _ (fun K hK => ?_))
  clear hF hY
  have e2 := a2.step hB3
  have r0 := e2.cell 0
  have r1 := e2.cell 1
  have f0 := e2.free 0
  have f1 := e2.free 1
  have g := (e2.set 0 (.int .i64 bits)).set 1 (.slice (some ⟨b3, 0, none⟩) xs.length cap3)
  have g0 := g.cell 0
  have g1 := g.cell 1
  simp only [List.set_cons_zero, List.set_cons_succ, List.getElem?_cons_zero, List.getElem?_cons_succ] at g0 g1 r0 r1
  have ho2 := (hok3.other (w.heap.size + 1) 0 (.int .i64 bits) (by omega)).other (w.heap.size + 1) 1 (.slice (some ⟨b3, 0, none⟩) xs.length cap3) (by omega)
  have hBB : Below w.heap.size w ((w3.setCell ⟨w.heap.size + 1, 0, none⟩ (.int .i64 bits)).setCell ⟨w.heap.size + 1, 1, none⟩ (.slice (some ⟨b3, 0, none⟩) xs.length cap3)) := ((below_trans hB0 hB3).setCell (p := ⟨w.heap.size + 1, 0, none⟩) (by simp) _).setCell (p := ⟨w.heap.size + 1, 1, none⟩) (by simp) _
  have Ho2 := Lib.hid ho2
  clear hok3 ho2 e2 g hown3
  go_wp2_with fail
  refine OnlyK.mk (hK.out _ _ ?_)
  clear hK
  go_wp2
  exact bodyPost_ret (v := .agg #[.int .i64 bits, .slice (some ⟨b3, 0, none⟩) xs.length cap3]) (by simp [results, Try.results55, go_sem, g0, g1]) rfl ⟨b3, cap3, rfl, Ho2.out, hBB⟩

set_option maxHeartbeats 1000000 in
theorem rprio10_any (n : Nat) (xs : List Int) (k : Nat) (hn : n ≤ 16) (hl : xs.length = 16 * 2 ^ n) (hk : k < 2 ^ n) (a : Option Addr) (cap : Nat) (w : World) (hT : Tab xs a cap w) :
    Calls Try.prog 56 #[tabV (n : Int) xs a cap, .int .i64 (k : Int)] w fun e w' => e = .returned (.int .i64 (S10.prio xs k)) ∧ Below w.heap.size w w' := by
  have hps := pow_small hn
  obtain ⟨b, off, rfl, hcs⟩ := hT.rd (fun e => by have h1 := congrArg List.length e; rw [Bts_length, hl] at h1; simp only [List.length_nil] at h1; omega)
  have hin : 16 * k + 1 < xs.length := by omega
  have hv := hcs (16 * k + 1) _ (Bts_at hin)
  have hr : 0 ≤ xs.getD (16 * k + 1) 0 ∧ xs.getD (16 * k + 1) 0 < 256 := by
    rw [List.getD_eq_getElem?_getD, List.getElem?_eq_getElem hin]; exact hT.ok _ (List.getElem_mem hin)
  unfold S10.prio
  obtain ⟨v, hvv⟩ : ∃ v, xs.getD (16 * k + 1) 0 = v := ⟨_, rfl⟩
  rw [hvv] at hv hr ⊢
  have HP := Lib.hid fun V => refPriority09_any v V
  obtain ⟨r, hrr⟩ : ∃ r, (if S09.found v then S09.hz v + S09.ho v else -1) = r := ⟨_, rfl⟩
  rw [hrr] at HP ⊢
  have hbl := block_lt_of_cell hv
  simp only at hbl
  have ev : wrap64 v = v := IntWalk.wrap64_in _ ⟨by omega, by omega⟩
  have hcap := hT.cap
  have hLs : xs.length ≤ 1048576 := by omega
  unfold tabV
  clear hl hps hk hrr hvv hT
  have hv0 : (w.alloc (Obj.cells #[.int .i64 (n : Int), .slice (some ⟨b, off, none⟩) xs.length cap] 26)).cell? ⟨b, off + (16 * k + 1), none⟩ = some (.int .u8 v) := (((Below.refl w.heap.size w).alloc (Nat.le_refl _) _).cell (block_lt_of_cell hv)).trans hv
  go_enter Try.func56, Try.ntmps56
  go_wp2_with fail
  (try rw [ev])
  refine (HP.out _).mono ?_
  rintro e w2 ⟨rfl, hb2⟩
  have hB2 : Below w.heap.size w w2 := below_trans ((Below.refl _ w).alloc (Nat.le_refl _) _) hb2
  go_wp2
  go_returns
  exact ⟨rfl, hB2⟩

theorem wrap_self (x : Int) (h : -9223372036854775808 ≤ x) (h' : x < 9223372036854775808) : wrap64 x = x := IntWalk.wrap64_in _ ⟨by omega, by omega⟩

set_option maxHeartbeats 1000000 in
theorem rexists10_any (m : Nat) (xs : List Int) (n k : Int) (hm : m ≤ 16) (a : Option Addr) (cap : Nat) (w : World) :
    Calls Try.prog 59 #[tabV (m : Int) xs a cap, .int .i64 n, .int .i64 k] w fun e w' => e = .returned (.bool (S10.exists (m : Int) n k)) ∧ Below w.heap.size w w' := by
  have HZ := Lib.hid fun W => size10_any m (by omega) W
  have e : (2 : Int) ^ m = ((2 ^ m : Nat) : Int) := by simp
  have hx : S10.exists (m : Int) n k = (decide (0 ≤ n ∧ n < ((2 ^ m : Nat) : Int)) && decide (1 ≤ k ∧ k ≤ 15)) := by unfold S10.exists; rw [Int.toNat_natCast, e]
  rw [hx]
  unfold tabV
  generalize 2 ^ m = M at *
  clear e hx
  by_cases h1 : 0 ≤ n
  · have e1 : decide (0 ≤ n ∧ n < (M : Int)) = decide (n < (M : Int)) := by simp [h1]
    rw [e1]
    go_enter Try.func59, Try.ntmps59
    go_wp2_with fail
    refine (HZ.out _).mono ?_
    rintro e w1 ⟨rfl, hb1⟩
    have hB1 : Below w.heap.size w w1 := below_trans (by go_grown) hb1
    have z1 : w.heap.size ≤ w1.heap.size := hB1.size
    by_cases h2 : n < (M : Int)
    · by_cases h3 : 1 ≤ k
      · go_wp2
        go_returns
        exact ⟨by first | (simp [h2, h3]; done) | (simp [h2, h3]; omega), hB1⟩
      · go_wp2
        go_returns
        exact ⟨by first | (simp [h2, h3]; done) | (simp [h2, h3]; omega), hB1⟩
    · go_wp2
      go_returns
      exact ⟨by first | (simp [h2]; done) | (simp [h2]; omega), hB1⟩
  · have e1 : decide (0 ≤ n ∧ n < (M : Int)) = false := by simp [h1]
    rw [e1]
    go_enter Try.func59, Try.ntmps59
    go_wp2
    go_returns
    exact ⟨by simp, by go_grown⟩
end Go.Proofs.Ytgbjckjfjoiilaa

namespace Go.Proofs.Ytgbjckjfjoiilaa
open Go.RowKit

set_option maxHeartbeats 1000000 in
theorem rget10_any (bits : Int) (xs : List Int) (n k : Int) (a : Option Addr) (cap : Nat) (w : World) (hT : Tab xs a cap w) :
    Calls Try.prog 28 #[tabV bits xs a cap, .int .i64 n, .int .i64 k] w fun e w' => e = .returned (.tuple #[.int .i64 (S10.getN bits xs n k), .int .i64 (S10.node bits xs n k)]) ∧ Below w.heap.size w w' := by
  have HC := Lib.hid fun W (h : Tab xs a cap W) => rcheck10_any bits xs a cap W h
  by_cases hc : S10.check bits xs = 0
  · obtain ⟨m, rfl, hm, hl, hz2⟩ := S10.correct hc
    have HX := Lib.hid fun W => rexists10_any m xs n k hm a cap W
    have e0 : S10.node (m : Int) xs n k = if S10.exists (m : Int) n k then 0 else 2 := if_pos hc
    rw [hc] at HC
    by_cases hx : S10.exists (m : Int) n k = true
    · have e2 : S10.node (m : Int) xs n k = 0 := by rw [e0, hx]; rfl
      have e1 : S10.getN (m : Int) xs n k = xs.getD (16 * n.toNat + k.toNat) 0 := if_pos e2
      rw [e1, e2]
      rw [hx] at HX
      obtain ⟨n', k', rfl, rfl, hn, hk1, hk2⟩ := S10.exists_at hx
      have hps := pow_small hm
      obtain ⟨b, off, rfl, hcs⟩ := hT.rd (fun e => by have h1 := congrArg List.length e; rw [Bts_length, hl] at h1; simp only [List.length_nil] at h1; omega)
      have hin : 16 * n' + k' < xs.length := by omega
      have hcap := hT.cap
      have hLs : xs.length ≤ 1048576 := by omega
      have hv := hcs (16 * n' + k') _ (Bts_at hin)
      have hr : 0 ≤ xs.getD (16 * n' + k') 0 ∧ xs.getD (16 * n' + k') 0 < 256 := by
        rw [List.getD_eq_getElem?_getD, List.getElem?_eq_getElem hin]; exact hT.ok _ (List.getElem_mem hin)
      simp only [Int.toNat_natCast]
      obtain ⟨v, hvv⟩ : ∃ v, xs.getD (16 * n' + k') 0 = v := ⟨_, rfl⟩
      rw [hvv] at hv hr ⊢
      have hbl := block_lt_of_cell hv
      simp only at hbl
      have ev : wrap64 v = v := IntWalk.wrap64_in _ ⟨by omega, by omega⟩
      unfold tabV at *
      clear e0 e1 e2 hc hx hl hz2 hps hn hvv
      go_enter Try.func28, Try.ntmps28
      go_wp2_with fail
      refine (HC.out _ (hT.step (by go_grown))).mono ?_
      rintro e w1 ⟨rfl, hb1⟩
      have hB1 : Below w.heap.size w w1 := below_trans (by go_grown) hb1
      have z1 : w.heap.size ≤ w1.heap.size := hB1.size
      have hc1 : Blk w1 w.heap.size [.int .i64 (m : Int), .slice (some ⟨b, off, none⟩) xs.length cap] 26 := (Blk.new w _ _).step hb1
      have k1 : w1.cell? ⟨w.heap.size, 0, none⟩ = some (.int .i64 (m : Int)) := hc1.cell 0
      have k2 : w1.cell? ⟨w.heap.size, 1, none⟩ = some (.slice (some ⟨b, off, none⟩) xs.length cap) := hc1.cell 1
      go_wp2_with fail
      refine (HX.out _).mono ?_
      rintro e w2 ⟨rfl, hb2⟩
      have hB2 : Below w.heap.size w w2 := below_trans (by go_grown) hb2
      have z2 : w.heap.size ≤ w2.heap.size := hB2.size
      have hc3 := hc1.step hb2
      have k3 : w2.cell? ⟨w.heap.size, 1, none⟩ = some (.slice (some ⟨b, off, none⟩) xs.length cap) := hc3.cell 1
      have hv2 : w2.cell? ⟨b, off + (16 * n' + k'), none⟩ = some (.int .u8 v) := (hB2.cell (p := ⟨b, off + (16 * n' + k'), none⟩) hbl).trans hv
      go_wp2
      go_returns
      first | exact ⟨rfl, hB2⟩ | (refine ⟨?_, hB2⟩; simp [ev])
    · have e2 : S10.node (m : Int) xs n k = 2 := by rw [e0, if_neg hx]
      have e1 : S10.getN (m : Int) xs n k = 0 := if_neg (by rw [e2]; decide)
      rw [e1, e2]
      rw [Bool.not_eq_true] at hx
      rw [hx] at HX
      unfold tabV at *
      clear e0 e1 e2 hc hx hl hz2
      go_enter Try.func28, Try.ntmps28
      go_wp2_with fail
      refine (HC.out _ (hT.step (by go_grown))).mono ?_
      rintro e w1 ⟨rfl, hb1⟩
      have hB1 : Below w.heap.size w w1 := below_trans (by go_grown) hb1
      have z1 : w.heap.size ≤ w1.heap.size := hB1.size
      have hc1 : Blk w1 w.heap.size [.int .i64 (m : Int), .slice a xs.length cap] 26 := (Blk.new w _ _).step hb1
      have k1 : w1.cell? ⟨w.heap.size, 0, none⟩ = some (.int .i64 (m : Int)) := hc1.cell 0
      have k2 : w1.cell? ⟨w.heap.size, 1, none⟩ = some (.slice a xs.length cap) := hc1.cell 1
      go_wp2_with fail
      refine (HX.out _).mono ?_
      rintro e w2 ⟨rfl, hb2⟩
      have hB2 : Below w.heap.size w w2 := below_trans (by go_grown) hb2
      have z2 : w.heap.size ≤ w2.heap.size := hB2.size
      go_wp2
      go_returns
      exact ⟨rfl, hB2⟩
  · have e2 : S10.node bits xs n k = S10.check bits xs := if_neg hc
    have e1 : S10.getN bits xs n k = 0 := if_neg (by rw [e2]; exact hc)
    rw [e1, e2]
    have hc' : (S10.check bits xs != 0) = true := by simpa using hc
    obtain ⟨C, hC⟩ : ∃ C, S10.check bits xs = C := ⟨_, rfl⟩
    rw [hC] at hc' HC ⊢
    unfold tabV at *
    clear hc e1 e2 hC
    go_enter Try.func28, Try.ntmps28
    go_wp2_with fail
    refine (HC.out _ (hT.step (by go_grown))).mono ?_
    rintro e w1 ⟨rfl, hb1⟩
    have hB1 : Below w.heap.size w w1 := below_trans (by go_grown) hb1
    have z1 : w.heap.size ≤ w1.heap.size := hB1.size
    go_wp2
    go_returns
    exact ⟨rfl, hB1⟩

set_option maxHeartbeats 1000000 in
theorem rnew10_any (bits : Int) (w : World) : Calls Try.prog 17 #[.int .i64 bits] w fun e w' => ∃ V, e = .returned (.tuple #[V, .int .i64 (S10.newE bits)]) ∧ TO w' w.heap.size (S10.newB bits) (S10.newX bits) V ∧ Below w.heap.size w w' := by
  by_cases h : 0 ≤ bits ∧ bits ≤ 16
  · have e1 : S10.newE bits = 0 := if_pos h
    have e2 : S10.newB bits = bits := if_pos h
    have e3 : S10.newX bits = List.replicate (16 * 2 ^ bits.toNat) 0 := if_pos h
    rw [e1, e2, e3]
    obtain ⟨n, rfl⟩ := Int.eq_ofNat_of_zero_le h.1
    have hn : n ≤ 16 := by omega
    have HZ := Lib.hid fun W => size10_any n (by omega) W
    have hps := pow_small hn
    have b1 : ¬ ((n : Int) < 0) := by omega
    have b2 : ¬ (16 < (n : Int)) := by omega
    rw [Int.toNat_natCast]
    clear h e1 e2 e3
    obtain ⟨m, hmm⟩ : ∃ m, 2 ^ n = m := ⟨_, rfl⟩
    rw [hmm] at HZ hps ⊢
    clear hmm
    have ew : wrap64 (16 * (m : Int)) = 16 * (m : Int) := IntWalk.wrap64_in _ ⟨by omega, by omega⟩
    go_enter Try.func17, Try.ntmps17
    go_wp2_with fail
    refine (HZ.out _).mono ?_
    rintro e w1 ⟨rfl, hb1⟩
    have hB1 : Below w.heap.size w w1 := below_trans (by go_grown) hb1
    have z1 : w.heap.size ≤ w1.heap.size := hB1.size
    have hc2 : Blk w1 w.heap.size [.int .i64 0, .slice none 0 0] 26 := (Blk.new w _ _).step hb1
    have l1 := hc2.lt
    have ho := OB.made w1 (16 * m) (by omega)
    have hb2 : Below w1.heap.size w1 (w1.alloc (.cells (List.replicate (16 * m) (Value.int .u8 0)).toArray 5)) := (Below.refl _ w1).alloc (Nat.le_refl _) _
    obtain ⟨w2, hw2⟩ : ∃ w2, w1.alloc (.cells (List.replicate (16 * m) (Value.int .u8 0)).toArray 5) = w2 := ⟨_, rfl⟩
    rw [hw2] at ho hb2
    have hB2 := below_trans hB1 hb2
    have hd2 := hc2.step hb2
    have r2 := hd2.cell 0
    have r3 := hd2.cell 1
    have f2 := hd2.free 0
    have f3 := hd2.free 1
    have g := (hd2.set 0 (.int .i64 (n : Int))).set 1 (.slice (some ⟨w1.heap.size, 0, none⟩) (16 * m) (16 * m))
    have g0 := g.cell 0
    have g1 := g.cell 1
    simp only [List.set_cons_zero, List.set_cons_succ, List.getElem?_cons_zero, List.getElem?_cons_succ] at r2 r3 g0 g1
    have ho2 := ((ho.mono (base' := w.heap.size) z1).other w.heap.size 0 (.int .i64 (n : Int)) (by omega)).other w.heap.size 1 (.slice (some ⟨w1.heap.size, 0, none⟩) (16 * m) (16 * m)) (by omega)
    have hV : TO ((w2.setCell ⟨w.heap.size, 0, none⟩ (.int .i64 (n : Int))).setCell ⟨w.heap.size, 1, none⟩ (.slice (some ⟨w1.heap.size, 0, none⟩) (16 * m) (16 * m))) w.heap.size (n : Int) (List.replicate (16 * m) 0) (.agg #[.int .i64 (n : Int), .slice (some ⟨w1.heap.size, 0, none⟩) (16 * m) (16 * m)]) :=
      .inr ⟨_, _, by unfold tabV; rw [List.length_replicate], ho2⟩
    have HV := Lib.hid hV
    clear hV ho ho2 g hd2 hc2
    go_wp2_with (at_make; refine wpList_value rfl (op_make1 (.tmp 14) 24 5 1 (.int .u8 0) elems_bytes rfl .i64 (16 * m) (by first | (show Value.int .i64 (16 * (m : Int)) = _; simp; done) | (show Value.int .i64 (wrap64 _) = _; rw [ew]; simp)) (by omega) (by unfold maxLen; omega)) ?_; rw [hw2]; clear hw2)
    exact bodyPost_ret (v := .tuple #[.agg #[.int .i64 (n : Int), .slice (some ⟨w1.heap.size, 0, none⟩) (16 * m) (16 * m)], .int .i64 0]) (by simp [results, Try.results17, go_sem, g0, g1]) rfl ⟨_, rfl, HV.out, (hB2.setCell (p := ⟨w.heap.size, 0, none⟩) (by simp) _).setCell (p := ⟨w.heap.size, 1, none⟩) (by simp) _⟩
  · have e1 : S10.newE bits = 2 := if_neg h
    have e2 : S10.newB bits = 0 := if_neg h
    have e3 : S10.newX bits = [] := if_neg h
    rw [e1, e2, e3]
    clear e1 e2 e3
    have hc2 : Blk (w.alloc (.cells #[.int .i64 0, .slice none 0 0] 26)) w.heap.size [.int .i64 0, .slice none 0 0] 26 := Blk.new w _ _
    have hB1 : Below w.heap.size w (w.alloc (.cells #[.int .i64 0, .slice none 0 0] 26)) := (Below.refl _ w).alloc (Nat.le_refl _) _
    have g := (hc2.set 0 (.int .i64 0)).set 1 (.slice none 0 0)
    have g0 := g.cell 0
    have g1 := g.cell 1
    simp only [List.set_cons_zero, List.set_cons_succ, List.getElem?_cons_zero, List.getElem?_cons_succ] at g0 g1
    by_cases h1 : bits < 0
    · go_enter Try.func17, Try.ntmps17
      go_wp2
      refine bodyPost_ret (v := .tuple #[.agg #[.int .i64 0, .slice none 0 0], .int .i64 2]) ?_ rfl ⟨_, rfl, TO.nil _ _, ?_⟩
      · simp [results, Try.results17, go_sem]
      · go_grown
    · have h2 : 16 < bits := by omega
      go_enter Try.func17, Try.ntmps17
      go_wp2
      refine bodyPost_ret (v := .tuple #[.agg #[.int .i64 0, .slice none 0 0], .int .i64 2]) ?_ rfl ⟨_, rfl, TO.nil _ _, ?_⟩
      · simp [results, Try.results17, go_sem]
      · go_grown
end Go.Proofs.Ytgbjckjfjoiilaa

namespace Go.Proofs.Ytgbjckjfjoiilaa
open Go.RowKit

set_option maxHeartbeats 2000000 in
theorem rset10_bad (bits : Int) (xs : List Int) (n k st : Int) (a : Option Addr) (cap : Nat) (w : World) (hT : Tab xs a cap w) (hc : ¬ S10.setE bits xs n k st = 0) :
    Calls Try.prog 26 #[tabV bits xs a cap, .int .i64 n, .int .i64 k, .int .i64 st] w fun e w' => e = .returned (.tuple #[.agg #[.int .i64 0, .slice none 0 0], .int .i64 (S10.setE bits xs n k st)]) ∧ Below w.heap.size w w' := by
  have HC := Lib.hid fun W (h : Tab xs a cap W) => rcheck10_any bits xs a cap W h
  by_cases h0 : S10.check bits xs = 0
  · obtain ⟨m, rfl, hm, hl, hz2⟩ := S10.correct h0
    have HX := Lib.hid fun W => rexists10_any m xs n k hm a cap W
    have e0 : S10.node (m : Int) xs n k = if S10.exists (m : Int) n k then 0 else 2 := if_pos h0
    rw [h0] at HC
    by_cases hx : S10.exists (m : Int) n k = true
    · have e2 : S10.node (m : Int) xs n k = 0 := by rw [e0, hx]; rfl
      have e1 : S10.setE (m : Int) xs n k st = if 0 ≤ st ∧ st ≤ 214 then 0 else 1 := if_pos e2
      have hst : ¬ (0 ≤ st ∧ st ≤ 214) := fun h => hc (by rw [e1, if_pos h])
      rw [e1, if_neg hst]
      rw [hx] at HX
      unfold tabV at *
      clear e0 e1 e2 h0 hx hl hz2 hc
      go_enter Try.func26, Try.ntmps26
      go_wp2_with fail
      refine (HC.out _ (hT.step (by go_grown))).mono ?_
      rintro e w1 ⟨rfl, hb1⟩
      have hB1 : Below w.heap.size w w1 := below_trans (by go_grown) hb1
      have z1 : w.heap.size ≤ w1.heap.size := hB1.size
      have hc1 : Blk w1 w.heap.size [.int .i64 (m : Int), .slice a xs.length cap] 26 := ((Blk.new w _ _).alloc _).step hb1
      have hc2 : Blk w1 (w.heap.size + 1) [.int .i64 0, .slice none 0 0] 26 := by
        have h := (Blk.new (w.alloc (.cells #[.int .i64 (m : Int), .slice a xs.length cap] 26)) [.int .i64 0, .slice none 0 0] 26).step hb1
        rwa [World.size_alloc] at h
      have k1 := hc1.cell 0
      have k2 := hc1.cell 1
      simp only [List.getElem?_cons_zero, List.getElem?_cons_succ] at k1 k2
      go_wp2_with fail
      refine (HX.out _).mono ?_
      rintro e w2 ⟨rfl, hb2⟩
      have hB2 : Below w.heap.size w w2 := below_trans (by go_grown) hb2
      have z2 : w.heap.size ≤ w2.heap.size := hB2.size
      by_cases hneg : st < 0
      · have hc3 := hc2.step hb2
        have r0 := hc3.cell 0
        have r1 := hc3.cell 1
        have f0 := hc3.free 0
        have f1 := hc3.free 1
        have g := (hc3.set 0 (.int .i64 0)).set 1 (.slice none 0 0)
        have g0 := g.cell 0
        have g1 := g.cell 1
        simp only [List.set_cons_zero, List.set_cons_succ, List.getElem?_cons_zero, List.getElem?_cons_succ] at g0 g1 r0 r1
        clear hc1 hc2 hc3 g
        go_wp2
        exact bodyPost_ret (v := .tuple #[.agg #[.int .i64 0, .slice none 0 0], .int .i64 1]) (by simp [results, Try.results26, go_sem, g0, g1]) rfl ⟨rfl, (hB2.setCell (p := ⟨w.heap.size + 1, 0, none⟩) (by simp) _).setCell (p := ⟨w.heap.size + 1, 1, none⟩) (by simp) _⟩
      · have hbig : 215 ≤ st := by omega
        go_wp2_with fail
        refine (refCount09_any _).mono ?_
        rintro e w3 ⟨rfl, hb3⟩
        have hB3 : Below w.heap.size w w3 := below_trans (by go_grown) hb3
        have z3 : w.heap.size ≤ w3.heap.size := hB3.size
        have hc3 := (hc2.step hb2).step hb3
        have r0 := hc3.cell 0
        have r1 := hc3.cell 1
        have f0 := hc3.free 0
        have f1 := hc3.free 1
        have g := (hc3.set 0 (.int .i64 0)).set 1 (.slice none 0 0)
        have g0 := g.cell 0
        have g1 := g.cell 1
        simp only [List.set_cons_zero, List.set_cons_succ, List.getElem?_cons_zero, List.getElem?_cons_succ] at g0 g1 r0 r1
        clear hc1 hc2 hc3 g
        go_wp2
        exact bodyPost_ret (v := .tuple #[.agg #[.int .i64 0, .slice none 0 0], .int .i64 1]) (by simp [results, Try.results26, go_sem, g0, g1]) rfl ⟨rfl, (hB3.setCell (p := ⟨w.heap.size + 1, 0, none⟩) (by simp) _).setCell (p := ⟨w.heap.size + 1, 1, none⟩) (by simp) _⟩
    · have e2 : S10.node (m : Int) xs n k = 2 := by rw [e0, if_neg hx]
      have e1 : S10.setE (m : Int) xs n k st = 2 := (if_neg (by rw [e2]; decide)).trans e2
      rw [e1]
      rw [Bool.not_eq_true] at hx
      rw [hx] at HX
      unfold tabV at *
      clear e0 e1 e2 hc hx hl hz2 h0
      go_enter Try.func26, Try.ntmps26
      go_wp2_with fail
      refine (HC.out _ (hT.step (by go_grown))).mono ?_
      rintro e w1 ⟨rfl, hb1⟩
      have hB1 : Below w.heap.size w w1 := below_trans (by go_grown) hb1
      have z1 : w.heap.size ≤ w1.heap.size := hB1.size
      have hc1 : Blk w1 w.heap.size [.int .i64 (m : Int), .slice a xs.length cap] 26 := ((Blk.new w _ _).alloc _).step hb1
      have hc2 : Blk w1 (w.heap.size + 1) [.int .i64 0, .slice none 0 0] 26 := by
        have h := (Blk.new (w.alloc (.cells #[.int .i64 (m : Int), .slice a xs.length cap] 26)) [.int .i64 0, .slice none 0 0] 26).step hb1
        rwa [World.size_alloc] at h
      have k1 := hc1.cell 0
      have k2 := hc1.cell 1
      simp only [List.getElem?_cons_zero, List.getElem?_cons_succ] at k1 k2
      go_wp2_with fail
      refine (HX.out _).mono ?_
      rintro e w2 ⟨rfl, hb2⟩
      have hB2 : Below w.heap.size w w2 := below_trans (by go_grown) hb2
      have z2 : w.heap.size ≤ w2.heap.size := hB2.size
      have hc3 := hc2.step hb2
      have r0 := hc3.cell 0
      have r1 := hc3.cell 1
      have f0 := hc3.free 0
      have f1 := hc3.free 1
      have g := (hc3.set 0 (.int .i64 0)).set 1 (.slice none 0 0)
      have g0 := g.cell 0
      have g1 := g.cell 1
      simp only [List.set_cons_zero, List.set_cons_succ, List.getElem?_cons_zero, List.getElem?_cons_succ] at g0 g1 r0 r1
      clear hc1 hc2 hc3 g
      go_wp2
      exact bodyPost_ret (v := .tuple #[.agg #[.int .i64 0, .slice none 0 0], .int .i64 2]) (by simp [results, Try.results26, go_sem, g0, g1]) rfl ⟨rfl, (hB2.setCell (p := ⟨w.heap.size + 1, 0, none⟩) (by simp) _).setCell (p := ⟨w.heap.size + 1, 1, none⟩) (by simp) _⟩
  · have e2 : S10.node bits xs n k = S10.check bits xs := if_neg h0
    have e1 : S10.setE bits xs n k st = S10.check bits xs := (if_neg (by rw [e2]; exact h0)).trans e2
    rw [e1]
    have hc' : (S10.check bits xs != 0) = true := by simpa using h0
    obtain ⟨C, hC⟩ : ∃ C, S10.check bits xs = C := ⟨_, rfl⟩
    rw [hC] at hc' HC ⊢
    unfold tabV at *
    clear hc e1 e2 hC h0
    go_enter Try.func26, Try.ntmps26
    go_wp2_with fail
    refine (HC.out _ (hT.step (by go_grown))).mono ?_
    rintro e w1 ⟨rfl, hb1⟩
    have hB1 : Below w.heap.size w w1 := below_trans (by go_grown) hb1
    have z1 : w.heap.size ≤ w1.heap.size := hB1.size
    have hc3 : Blk w1 (w.heap.size + 1) [.int .i64 0, .slice none 0 0] 26 := by
      have h := (Blk.new (w.alloc (.cells #[.int .i64 bits, .slice a xs.length cap] 26)) [.int .i64 0, .slice none 0 0] 26).step hb1
      rwa [World.size_alloc] at h
    have r0 := hc3.cell 0
    have r1 := hc3.cell 1
    have f0 := hc3.free 0
    have f1 := hc3.free 1
    have g := (hc3.set 0 (.int .i64 0)).set 1 (.slice none 0 0)
    have g0 := g.cell 0
    have g1 := g.cell 1
    simp only [List.set_cons_zero, List.set_cons_succ, List.getElem?_cons_zero, List.getElem?_cons_succ] at g0 g1 r0 r1
    clear hc3 g
    go_wp2
    exact bodyPost_ret (v := .tuple #[.agg #[.int .i64 0, .slice none 0 0], .int .i64 C]) (by simp [results, Try.results26, go_sem, g0, g1]) rfl ⟨rfl, (hB1.setCell (p := ⟨w.heap.size + 1, 0, none⟩) (by simp) _).setCell (p := ⟨w.heap.size + 1, 1, none⟩) (by simp) _⟩

set_option maxHeartbeats 2000000 in
theorem rset10_ok (m n k : Nat) (xs : List Int) (st : Int) (hm : m ≤ 16) (hl : xs.length = 16 * 2 ^ m) (hn : n < 2 ^ m) (hk : k ≤ 15) (hst : 0 ≤ st ∧ st ≤ 214) (a : Option Addr) (cap : Nat) (w : World) (hT : Tab xs a cap w)
    (hC : S10.check (m : Int) xs = 0) (hX : S10.exists (m : Int) (n : Int) (k : Int) = true) :
    Calls Try.prog 26 #[tabV (m : Int) xs a cap, .int .i64 (n : Int), .int .i64 (k : Int), .int .i64 st] w fun e w' => ∃ b cap', e = .returned (.tuple #[tabV (m : Int) xs (some ⟨b, 0, none⟩) cap', .int .i64 0]) ∧ OB w' w.heap.size b cap' (xs.set (16 * n + k) st) ∧ Below w.heap.size w w' := by
  have HC := Lib.hid fun W (h : Tab xs a cap W) => rcheck10_any (m : Int) xs a cap W h
  rw [hC] at HC
  have HX := Lib.hid fun W => rexists10_any m xs n k hm a cap W
  rw [hX] at HX
  have hps := pow_small hm
  have HCl := Lib.hid fun W (h : Rd W a (Bts xs)) => rcopy10_any (m : Int) xs a cap W (by omega) (by omega) h
  have hin : 16 * n + k < xs.length := by omega
  have Hin := Lib.hid hin
  have HLs := Lib.hid (show xs.length ≤ 1048576 by omega)
  have est : st % 256 = st := by omega
  have b1 : ¬ (st < 0) := by omega
  have b2 : ¬ (215 ≤ st) := by omega
  unfold tabV at *
  clear hC hX hl hps hin hn hst
  go_enter Try.func26, Try.ntmps26
  go_wp2_with fail
  refine (HC.out _ (hT.step (by go_grown))).mono ?_
  rintro e w1 ⟨rfl, hb1⟩
  have hB1 : Below w.heap.size w w1 := below_trans (by go_grown) hb1
  have z1 : w.heap.size ≤ w1.heap.size := hB1.size
  have hc1 : Blk w1 w.heap.size [.int .i64 (m : Int), .slice a xs.length cap] 26 := ((Blk.new w _ _).alloc _).step hb1
  have hc2 : Blk w1 (w.heap.size + 1) [.int .i64 0, .slice none 0 0] 26 := by
    have h := (Blk.new (w.alloc (.cells #[.int .i64 (m : Int), .slice a xs.length cap] 26)) [.int .i64 0, .slice none 0 0] 26).step hb1
    rwa [World.size_alloc] at h
  have k1 := hc1.cell 0
  have k2 := hc1.cell 1
  simp only [List.getElem?_cons_zero, List.getElem?_cons_succ] at k1 k2
  go_wp2_with fail
  refine (HX.out _).mono ?_
  rintro e w2 ⟨rfl, hb2⟩
  have hB2 : Below w.heap.size w w2 := below_trans (by go_grown) hb2
  have z2 : w.heap.size ≤ w2.heap.size := hB2.size
  go_wp2_with fail
  refine (refCount09_any _).mono ?_
  rintro e w3 ⟨rfl, hb3⟩
  have hB3 : Below w.heap.size w w3 := below_trans (by go_grown) hb3
  have z3 : w.heap.size ≤ w3.heap.size := hB3.size
  have hd1 := (hc1.step hb2).step hb3
  have hd2 := (hc2.step hb2).step hb3
  have k3 := hd1.cell 0
  have k4 := hd1.cell 1
  simp only [List.getElem?_cons_zero, List.getElem?_cons_succ] at k3 k4
  go_wp2_with fail
  refine (HCl.out _ (hT.rd.step hB3)).mono ?_
  rintro e w4 ⟨b, cap', rfl, ho4, hb4⟩
  have hB4 := below_trans hB3 hb4
  have he2 := hd2.step hb4
  have l2 := hd2.lt
  have l22 := he2.lt
  have z4 : w3.heap.size ≤ b := ho4.1
  have l4 := ho4.lt
  have hcap4 : xs.length ≤ cap' := ho4.2.1
  have hin4 := Hin.out
  have hLs4 := HLs.out
  have p0 : w4.cell? ⟨b, 16 * n + k, none⟩ = some (.int .u8 (xs.getD (16 * n + k) 0)) := ho4.at hin4
  have p1 : w4.frozen? ⟨b, 16 * n + k, none⟩ = false := ho4.free _
  have r0 := he2.cell 0
  have r1 := he2.cell 1
  have f0 := he2.free 0
  have f1 := he2.free 1
  simp only [List.getElem?_cons_zero, List.getElem?_cons_succ] at r0 r1
  have n1 : ¬ b = w4.heap.size := by omega
  have n2 : ¬ b = w.heap.size + 1 := by omega
  have ho6 := (((((ho4.set (16 * n + k) st).mono (base' := w.heap.size) (by have := hB3.size; omega)).other (w.heap.size + 1) 0 (.int .i64 (m : Int)) (by omega)).other (w.heap.size + 1) 1 (.slice (some ⟨b, 0, none⟩) xs.length cap') (by omega))).step ((Below.refl _ _).alloc (Nat.le_refl _) (Obj.cells #[.int .i64 (m : Int), .slice (some ⟨b, 0, none⟩) xs.length cap'] 26))
  have Ho6 := Lib.hid ho6
  have hg := (((he2.other b (16 * n + k) (.int .u8 st) (by omega)).set 0 (.int .i64 (m : Int))).set 1 (.slice (some ⟨b, 0, none⟩) xs.length cap')).alloc (Obj.cells #[.int .i64 (m : Int), .slice (some ⟨b, 0, none⟩) xs.length cap'] 26)
  have g0 := hg.cell 0
  have g1 := hg.cell 1
  simp only [List.set_cons_zero, List.set_cons_succ, List.getElem?_cons_zero, List.getElem?_cons_succ] at g0 g1
  have zB := hB3.size
  have hBf := ((((hB4.setCell (p := ⟨b, 16 * n + k, none⟩) (by show w.heap.size ≤ b; omega) (.int .u8 st)).setCell (p := ⟨w.heap.size + 1, 0, none⟩) (by simp) (.int .i64 (m : Int))).setCell (p := ⟨w.heap.size + 1, 1, none⟩) (by simp) (.slice (some ⟨b, 0, none⟩) xs.length cap')).alloc (by simp; omega) (Obj.cells #[.int .i64 (m : Int), .slice (some ⟨b, 0, none⟩) xs.length cap'] 26))
  have HBf := Lib.hid hBf
  clear hc1 hc2 hd1 hd2 k1 k2 k3 k4 ho4 ho6 hg hBf he2
  go_wp2
  exact bodyPost_ret (v := .tuple #[.agg #[.int .i64 (m : Int), .slice (some ⟨b, 0, none⟩) xs.length cap'], .int .i64 0]) (by simp [results, Try.results26, go_sem, g0, g1]) rfl ⟨b, cap', rfl, Ho6.out, HBf.out⟩

theorem rset10_any (bits : Int) (xs : List Int) (n k st : Int) (a : Option Addr) (cap : Nat) (w : World) (hT : Tab xs a cap w) :
    Calls Try.prog 26 #[tabV bits xs a cap, .int .i64 n, .int .i64 k, .int .i64 st] w fun e w' => ∃ V, e = .returned (.tuple #[V, .int .i64 (S10.setE bits xs n k st)]) ∧ TO w' w.heap.size (S10.setB bits xs n k st) (S10.setX bits xs n k st) V ∧ Below w.heap.size w w' := by
  by_cases hc : S10.setE bits xs n k st = 0
  · have h0 : S10.node bits xs n k = 0 := by
      unfold S10.setE at hc
      split at hc
      · assumption
      · exact hc
    have hst : 0 ≤ st ∧ st ≤ 214 := by
      unfold S10.setE at hc
      rw [if_pos h0] at hc
      split at hc
      · assumption
      · cases hc
    have e1 : S10.setB bits xs n k st = bits := if_pos hc
    have e2 : S10.setX bits xs n k st = xs.set (16 * n.toNat + k.toNat) st := if_pos hc
    rw [hc, e1, e2]
    obtain ⟨h1, h2⟩ := S10.node_zero h0
    obtain ⟨m, rfl, hm, hl, hz2⟩ := S10.correct h1
    obtain ⟨n', k', rfl, rfl, hn, hk1, hk2⟩ := S10.exists_at h2
    refine (rset10_ok m n' k' xs st hm hl hn hk2 hst a cap w hT h1 h2).mono ?_
    rintro e w' ⟨b, cap', rfl, ho, hb⟩
    refine ⟨_, rfl, .inr ⟨b, cap', ?_, ho⟩, hb⟩
    unfold tabV
    rw [List.length_set]
  · have e1 : S10.setB bits xs n k st = 0 := if_neg hc
    have e2 : S10.setX bits xs n k st = [] := if_neg hc
    rw [e1, e2]
    refine (rset10_bad bits xs n k st a cap w hT hc).mono ?_
    rintro e w' ⟨rfl, hb⟩
    exact ⟨_, rfl, TO.nil _ _, hb⟩
end Go.Proofs.Ytgbjckjfjoiilaa
