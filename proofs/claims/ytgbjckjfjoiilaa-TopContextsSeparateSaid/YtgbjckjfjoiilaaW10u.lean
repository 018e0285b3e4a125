/- What the reference's Check (layer 10) returns. The reference's places and mark (layer 10). The reference's find and Find (layer 10). No condition. -/
import Derived.Test.YtgbjckjfjoiilaaW10r
import Derived.Test.YtgbjckjfjoiilaaW09i
set_option linter.unusedSimpArgs false
set_option linter.unusedVariables false
set_option linter.unusedSectionVars false
namespace Go.Proofs.Ytgbjckjfjoiilaa
open Go.RowKit

def S10.bad2 (xs : List Int) (j : Nat) : Bool := decide (j % 16 ≠ 0) && decide (215 ≤ xs.getD j 0)
def S10.badP (xs : List Int) (i : Nat) : Bool := (List.range i).any (S10.bad2 xs)
theorem S10.badP_succ (xs : List Int) (i : Nat) : S10.badP xs (i + 1) = (S10.badP xs i || S10.bad2 xs i) := by
  unfold S10.badP
  rw [List.range_succ, List.any_append, List.any_cons, List.any_nil, Bool.or_false]
theorem S10.badP_mono {xs : List Int} {i k : Nat} (h : S10.bad2 xs i = true) (hi : i < k) : S10.badP xs k = true := by
  unfold S10.badP
  rw [List.any_eq_true]
  exact ⟨i, List.mem_range.2 hi, h⟩
theorem S10.mem_tail {xs : List Int} {k : Nat} {x : Int} (hl : 16 * k + 16 ≤ xs.length) : x ∈ S10.tail xs k ↔ ∃ j, 1 ≤ j ∧ j < 16 ∧ xs.getD (16 * k + j) 0 = x := by
  unfold S10.tail
  constructor
  · intro h
    obtain ⟨i, hi, rfl⟩ := List.mem_iff_getElem.1 h
    simp only [List.length_take, List.length_drop] at hi
    refine ⟨i + 1, by omega, by omega, ?_⟩
    rw [List.getElem_take, List.getElem_drop, List.getD_eq_getElem?_getD, List.getElem?_eq_getElem (by omega)]
    simp only [Option.getD_some]
    congr 1; omega
  · rintro ⟨j, h1, h2, rfl⟩
    rw [List.mem_iff_getElem]
    refine ⟨j - 1, by simp; omega, ?_⟩
    rw [List.getElem_take, List.getElem_drop, List.getD_eq_getElem?_getD, List.getElem?_eq_getElem (by omega)]
    simp only [Option.getD_some]
    congr 1; omega
theorem S10.bad_eq {xs : List Int} {m : Nat} (hl : xs.length = 16 * m) : S10.bad xs m = S10.badP xs (16 * m) := by
  rw [Bool.eq_iff_iff]
  unfold S10.bad S10.badP S10.bad2
  simp only [List.any_eq_true, List.mem_range, Bool.and_eq_true, decide_eq_true_eq]
  constructor
  · rintro ⟨k, hk, x, hx, hb⟩
    obtain ⟨j, h1, h2, rfl⟩ := (S10.mem_tail (by omega)).1 hx
    exact ⟨16 * k + j, by omega, by omega, by unfold S10.bad1 at hb; simpa using hb⟩
  · rintro ⟨j, hj, h1, h2⟩
    exact ⟨j / 16, by omega, _, (S10.mem_tail (by omega)).2 ⟨j % 16, by omega, by omega, rfl⟩, by
      have e : 16 * (j / 16) + j % 16 = j := by omega
      rw [e]; unfold S10.bad1; simpa using h2⟩

theorem i64_wrap64 (x : Int) : IntKind.i64.wrap x = wrap64 x := by rw [IntKind.wrap_i64]; unfold wrap64; omega
theorem i64_small {x : Int} (h : -9223372036854775808 ≤ x) (h' : x < 9223372036854775808) : IntKind.i64.wrap x = x := (i64_wrap64 x).trans (IntWalk.wrap64_in _ ⟨by omega, by omega⟩)
theorem Bts_at {xs : List Int} {k : Nat} (h : k < xs.length) : (Bts xs)[k]? = some (.int .u8 (xs.getD k 0)) := by
  unfold Bts
  rw [List.getElem?_map, List.getElem?_eq_getElem h, List.getD_eq_getElem?_getD, List.getElem?_eq_getElem h]
  rfl

set_option maxRecDepth 100000 in
set_option maxHeartbeats 2000000 in
theorem rcheck10_main (n : Nat) (hn : n ≤ 16) (xs : List Int) (hl : xs.length = 16 * 2 ^ n) (a : Option Addr) (cap : Nat) (w : World) (hT : Tab xs a cap w) :
    Calls Try.prog 20 #[tabV (n : Int) xs a cap] w fun e w' => e = .returned (.int .i64 (if S10.badP xs xs.length then 3 else 0)) ∧ Below w.heap.size w w' := by
  have hps := pow_small hn
  have hpp := Nat.two_pow_pos n
  have HZ := Lib.hid fun W => size10_any n (by omega) W
  obtain ⟨b, off, rfl, hcs⟩ := hT.rd (fun e => by have h1 := congrArg List.length e; rw [Bts_length, hl] at h1; simp only [List.length_nil] at h1; omega)
  have hok := Lib.hid hT.ok
  have eLn : (xs.length : Int) = 16 * ((2 ^ n : Nat) : Int) := by rw [hl]; simp
  have eW : wrap64 (16 * ((2 ^ n : Nat) : Int)) = xs.length := by rw [eLn]; generalize 2 ^ n = m at hps ⊢; exact IntWalk.wrap64_in _ ⟨by omega, by omega⟩
  have hLs : xs.length ≤ 2097152 := by omega
  have b1 : ¬ ((n : Int) < 0) := by omega
  have b2 : ¬ (16 < (n : Int)) := by omega
  obtain ⟨res, hres⟩ : ∃ res : Int, (if S10.badP xs xs.length then 3 else 0) = res := ⟨_, rfl⟩
  rw [hres]
  have Hres := Lib.hid hres
  have Hs := Lib.hid (S10.badP_succ xs)
  have Hm := Lib.hid (fun i hi h => S10.badP_mono (xs := xs) (i := i) (k := xs.length) h hi)
  unfold tabV
  have hcap := hT.cap
  clear hT hres hl eLn hpp hps
  generalize 2 ^ n = m at *
  go_enter Try.func20, Try.ntmps20
  go_wp2
  have hB0 : Below w.heap.size w (w.alloc (Obj.cells #[.int .i64 (n : Int), .slice (some ⟨b, off, none⟩) xs.length cap] 26)) := (Below.refl _ _).alloc (Nat.le_refl _) _
  have a0 : Blk (w.alloc (Obj.cells #[.int .i64 (n : Int), .slice (some ⟨b, off, none⟩) xs.length cap] 26)) w.heap.size [.int .i64 (n : Int), .slice (some ⟨b, off, none⟩) xs.length cap] 26 := Blk.new w _ _
  generalize w.alloc (Obj.cells #[.int .i64 (n : Int), .slice (some ⟨b, off, none⟩) xs.length cap] 26) = w0 at *
  have hCS : Cells w0 [(⟨w.heap.size, 0, none⟩, .int .i64 (n : Int)), (⟨w.heap.size, 1, none⟩, .slice (some ⟨b, off, none⟩) xs.length cap)] := ⟨a0.cell 0, a0.cell 1, trivial⟩
  refine wp_region_seq 8 0 [(true, [true, true, true, true, true]), (false, [false, false, false, false, false, true]), (true, [false, false, false, false, false, false, true, true])] _ _ (Keeps w0 [(⟨w.heap.size, 0, none⟩, .int .i64 (n : Int)), (⟨w.heap.size, 1, none⟩, .slice (some ⟨b, off, none⟩) xs.length cap)]) (by kernel_rfl) (List.take_append_drop 8 _).symm (by kernel_rfl) (by kernel_rfl) (by kernel_rfl) (by kernel_rfl) (Keeps.start hCS) (fun Y Q4 F4 hY hF => ?_)
  simp only [phased, List.flatMap_cons, List.flatMap_nil, List.take_succ_cons, List.take_zero, List.drop_succ_cons, List.drop_zero, sel_true, sel_false, sel_nil, List.map_cons, List.map_nil, List.cons_append, List.nil_append, List.append_nil]
  repeat
    apply wpSeq_read (by first | rfl | (rw [hY]; rfl))
    · intro w2 hS2
      (try simp only [Keeps, Cells] at hS2)
      (try simp only [HasC, Cells] at hS2)
      go_simp
      with_reducible rfl
    simp only [Act.put, List.setIfInBounds_toArray, List.set_cons_zero, List.set_cons_succ]
  apply wpSeq_call (by first | rfl | (rw [hY]; rfl))
  · go_simp
    with_reducible exact ⟨rfl, rfl⟩
  refine (HZ.out _).mono ?_
  rintro e w1 ⟨rfl, hb1⟩
  have hk1 := (Keeps.start hCS).step hb1
  refine ⟨_, rfl, hk1, ?_⟩
  simp only [Act.put, List.setIfInBounds_toArray, List.set_cons_zero, List.set_cons_succ]
  repeat
    apply wpSeq_read (by first | rfl | (rw [hY]; rfl))
    · intro w2 hS2
      (try simp only [Keeps, Cells] at hS2)
      (try simp only [HasC, Cells] at hS2)
      go_simp
      with_reducible rfl
    simp only [Act.put, List.setIfInBounds_toArray, List.set_cons_zero, List.set_cons_succ]
  refine wpSeq_done (hF.out _ _ (fun K hK => ?_))
  clear hF hY
  refine OnlyK.mk (hK.out _ _ ?_)
  clear hK
  have hB1 := below_trans hB0 hk1.1
  have a1 := a0.step hk1.1
  have eW2 : IntKind.i64.wrap (16 * (m : Int)) = xs.length := (i64_wrap64 _).trans eW
  rw [eW2, bne_self_eq_false]
  clear hb1 hk1 hCS a0 hB0
  go_wp2
  go_loopw [3] (fun i wr => ∃ k : Nat, k ≤ xs.length ∧ i = .int .i64 (k : Int) ∧ S10.badP xs k = false ∧ Below w1.heap.size w1 wr)
    (fun i _ => xs.length - (intOf i).toNat)
  case atStart => exact ⟨0, by omega, rfl, rfl, Below.refl _ _⟩
  case round =>
    obtain ⟨k, hk, rfl, hno, hB⟩ := hrel
    have hno' := Lib.hid hno
    have hBr := below_trans hB1 hB
    have a2 := a1.step hB
    have c0 := a2.cell 0
    have c1 := a2.cell 1
    simp only [List.getElem?_cons_zero, List.getElem?_cons_succ] at c0 c1
    clear hno
    by_cases hlt : k < xs.length
    · have hcx : wr.cell? ⟨b, off + k, none⟩ = some (.int .u8 (xs.getD k 0)) := rangeAt_step hcs hBr k _ (Bts_at hlt)
      have hr : 0 ≤ xs.getD k 0 ∧ xs.getD k 0 < 256 := by
        rw [List.getD_eq_getElem?_getD, List.getElem?_eq_getElem hlt]; exact hok.out _ (List.getElem_mem hlt)
      have hs := Hs.out k
      have hm := Hm.out k hlt
      have hb2 : S10.bad2 xs k = (decide (k % 16 ≠ 0) && decide (215 ≤ xs.getD k 0)) := rfl
      generalize S10.bad2 xs k = bd at *
      generalize xs.getD k 0 = v at *
      rw [hno'.out, Bool.false_or] at hs
      have ev : IntKind.i64.wrap v = v := i64_small (by omega) (by omega)
      have ek : ((k : Int) % 16 = ((k % 16 : Nat) : Int)) := by omega
      have hC2 : Cells wr [(⟨w.heap.size, 1, none⟩, .slice (some ⟨b, off, none⟩) xs.length cap), (⟨b, off + k, none⟩, .int .u8 v)] := ⟨c1, hcx, trivial⟩
      by_cases hg : k % 16 = 0
      · have hbf : bd = false := by rw [hb2]; simp [hg]
        rw [hbf] at hs
        have Hs1 := Lib.hid hs
        have eg : (k : Int).tmod 16 = 0 := by rw [Int.tmod_eq_emod_of_nonneg (by omega)]; omega
        clear hs hm hb2 hbf
        go_wp2
        refine wp_region_seq 13 0 [(true, [true, true, true, true, true, true, true, true, true, true]), (false, [false, false, false, false, false, false, false, false, false, false, true]), (true, [false, false, false, false, false, false, false, false, false, false, false, true, true])] _ _ (Keeps wr [(⟨w.heap.size, 1, none⟩, .slice (some ⟨b, off, none⟩) xs.length cap), (⟨b, off + k, none⟩, .int .u8 v)]) (by kernel_rfl) (List.take_append_drop 13 _).symm (by kernel_rfl) (by kernel_rfl) (by kernel_rfl) (by kernel_rfl) (Keeps.start hC2) (fun Y Q4 F4 hY hF => ?_)
        simp only [phased, List.flatMap_cons, List.flatMap_nil, List.take_succ_cons, List.take_zero, List.drop_succ_cons, List.drop_zero, sel_true, sel_false, sel_nil, List.map_cons, List.map_nil, List.cons_append, List.nil_append, List.append_nil]
        repeat
          apply wpSeq_read (by first | rfl | (rw [hY]; rfl))
          · intro w2 hS2
            (try simp only [Keeps, Cells] at hS2)
            (try simp only [HasC, Cells] at hS2)
            go_simp
            with_reducible rfl
          simp only [Act.put, List.setIfInBounds_toArray, List.set_cons_zero, List.set_cons_succ]
        repeat
          first
            | (apply wpSeq_unread (by rw [hY]; rfl)
               simp only [Act.put, List.setIfInBounds_toArray, List.set_cons_zero, List.set_cons_succ])
            | (refine wpSeq_skip (by rw [hY]; rfl) (Keeps.start hC2) ?_
               simp only [Act.put, List.setIfInBounds_toArray, List.set_cons_zero, List.set_cons_succ])
        repeat
          apply wpSeq_read (by first | rfl | (rw [hY]; rfl))
          · intro w2 hS2
            (try simp only [Keeps, Cells] at hS2)
            (try simp only [HasC, Cells] at hS2)
            go_simp
            with_reducible rfl
          simp only [Act.put, List.setIfInBounds_toArray, List.set_cons_zero, List.set_cons_succ]
        refine wpSeq_done (hF.out _ _ (fun K hK => ?_))
        clear hF hY
        refine OnlyK.mk (hK.out _ _ ?_)
        clear hK
        have hbd : Below wr.heap.size wr wr.drew := (Keeps.start hC2).1
        generalize wr.drew = w5 at *
        have hB5 := below_trans hB hbd
        go_wp2
        go_roundw
        case rel => exact ⟨k + 1, by omega, by simp, Hs1.out, hB5⟩
        case measure => simp [intOf]; omega
      · have hb3 : bd = decide (215 ≤ v) := by rw [hb2]; simp [hg]
        have Hm1 := Lib.hid hm
        have Hs1 := Lib.hid hs
        have eg : ((k : Int).tmod 16 != 0) = true := by rw [Int.tmod_eq_emod_of_nonneg (by omega)]; simp; omega
        clear hs hm hb2
        go_wp2
        refine wp_region_seq 13 0 [(true, [true, true, true, true, true, true, true, true, true, true]), (false, [false, false, false, false, false, false, false, false, false, false, true]), (true, [false, false, false, false, false, false, false, false, false, false, false, true, true])] _ _ (Keeps wr [(⟨w.heap.size, 1, none⟩, .slice (some ⟨b, off, none⟩) xs.length cap), (⟨b, off + k, none⟩, .int .u8 v)]) (by kernel_rfl) (List.take_append_drop 13 _).symm (by kernel_rfl) (by kernel_rfl) (by kernel_rfl) (by kernel_rfl) (Keeps.start hC2) (fun Y Q4 F4 hY hF => ?_)
        simp only [phased, List.flatMap_cons, List.flatMap_nil, List.take_succ_cons, List.take_zero, List.drop_succ_cons, List.drop_zero, sel_true, sel_false, sel_nil, List.map_cons, List.map_nil, List.cons_append, List.nil_append, List.append_nil]
        repeat
          apply wpSeq_read (by first | rfl | (rw [hY]; rfl))
          · intro w2 hS2
            (try simp only [Keeps, Cells] at hS2)
            (try simp only [HasC, Cells] at hS2)
            go_simp
            with_reducible rfl
          simp only [Act.put, List.setIfInBounds_toArray, List.set_cons_zero, List.set_cons_succ]
        apply wpSeq_call (by first | rfl | (rw [hY]; rfl))
        · go_simp
          with_reducible exact ⟨rfl, rfl⟩
        refine (refCount09_any _).mono ?_
        rintro e w5 ⟨rfl, hb5⟩
        have hk5 := (Keeps.start hC2).step hb5
        refine ⟨_, rfl, hk5, ?_⟩
        simp only [Act.put, List.setIfInBounds_toArray, List.set_cons_zero, List.set_cons_succ]
        repeat
          apply wpSeq_read (by first | rfl | (rw [hY]; rfl))
          · intro w2 hS2
            (try simp only [Keeps, Cells] at hS2)
            (try simp only [HasC, Cells] at hS2)
            go_simp
            with_reducible rfl
          simp only [Act.put, List.setIfInBounds_toArray, List.set_cons_zero, List.set_cons_succ]
        refine wpSeq_done (hF.out _ _ (fun K hK => ?_))
        clear hF hY
        refine OnlyK.mk (hK.out _ _ ?_)
        clear hK
        have hB5 := below_trans hB hk5.1
        have hB6 := below_trans hB1 hB5
        by_cases hv : 215 ≤ v
        · have hr3 : res = 3 := by rw [← Hres.out, Hm1.out (by rw [hb3]; simpa using hv)]; rfl
          go_wp2
          go_returns
          exact ⟨by rw [hr3]; rfl, hB6⟩
        · have Hs2 := Lib.hid (show S10.badP xs (k + 1) = false by rw [Hs1.out, hb3]; simpa using hv)
          go_wp2
          go_roundw
          case rel => exact ⟨k + 1, by omega, by simp, Hs2.out, hB5⟩
          case measure => simp [intOf]; omega
    · obtain rfl : k = xs.length := by omega
      have hr0 : res = 0 := by rw [← Hres.out, hno'.out]; rfl
      go_wp2
      go_returns
      exact ⟨by rw [hr0]; rfl, hBr⟩

set_option maxHeartbeats 1000000 in
theorem rcheck10_any (bits : Int) (xs : List Int) (a : Option Addr) (cap : Nat) (w : World) (hT : Tab xs a cap w) :
    Calls Try.prog 20 #[tabV bits xs a cap] w fun e w' => e = .returned (.int .i64 (S10.check bits xs)) ∧ Below w.heap.size w w' := by
  by_cases h1 : bits < 0 ∨ 16 < bits
  · rw [S10.check_range h1]
    unfold tabV
    rcases h1 with h1 | h1
    · go_enter Try.func20, Try.ntmps20
      go_wp2
      go_returns
      exact ⟨rfl, by go_grown⟩
    · have h2 : ¬ bits < 0 := by omega
      go_enter Try.func20, Try.ntmps20
      go_wp2
      go_returns
      exact ⟨rfl, by go_grown⟩
  · by_cases h2 : xs.length = 16 * 2 ^ bits.toNat
    · rw [S10.check_form h1 h2]
      obtain ⟨n, rfl⟩ := Int.eq_ofNat_of_zero_le (show 0 ≤ bits by omega)
      rw [Int.toNat_natCast] at *
      rw [S10.bad_eq h2, ← h2]
      exact rcheck10_main n (by omega) xs h2 a cap w hT
    · rw [S10.check_many h1 h2]
      obtain ⟨n, rfl⟩ := Int.eq_ofNat_of_zero_le (show 0 ≤ bits by omega)
      rw [Int.toNat_natCast] at *
      have hn : n ≤ 16 := by omega
      have hps := pow_small hn
      have HZ := Lib.hid fun W => size10_any n (by omega) W
      have b1 : ¬ ((n : Int) < 0) := by omega
      have b2 : ¬ (16 < (n : Int)) := by omega
      generalize 2 ^ n = m at *
      have eW : IntKind.i64.wrap (16 * (m : Int)) = 16 * (m : Int) := i64_small (by omega) (by omega)
      have ne : ((xs.length : Int) != 16 * (m : Int)) = true := by simp only [bne_iff_ne, ne_eq]; omega
      unfold tabV
      clear h1 h2 hps
      go_enter Try.func20, Try.ntmps20
      go_wp2
      have hB0 : Below w.heap.size w (w.alloc (Obj.cells #[.int .i64 (n : Int), .slice a xs.length cap] 26)) := (Below.refl _ _).alloc (Nat.le_refl _) _
      have a0 : Blk (w.alloc (Obj.cells #[.int .i64 (n : Int), .slice a xs.length cap] 26)) w.heap.size [.int .i64 (n : Int), .slice a xs.length cap] 26 := Blk.new w _ _
      generalize w.alloc (Obj.cells #[.int .i64 (n : Int), .slice a xs.length cap] 26) = w0 at *
      have hCS : Cells w0 [(⟨w.heap.size, 0, none⟩, .int .i64 (n : Int)), (⟨w.heap.size, 1, none⟩, .slice a xs.length cap)] := ⟨a0.cell 0, a0.cell 1, trivial⟩
      refine wp_region_seq 8 0 [(true, [true, true, true, true, true]), (false, [false, false, false, false, false, true]), (true, [false, false, false, false, false, false, true, true])] _ _ (Keeps w0 [(⟨w.heap.size, 0, none⟩, .int .i64 (n : Int)), (⟨w.heap.size, 1, none⟩, .slice a xs.length cap)]) (by kernel_rfl) (List.take_append_drop 8 _).symm (by kernel_rfl) (by kernel_rfl) (by kernel_rfl) (by kernel_rfl) (Keeps.start hCS) (fun Y Q4 F4 hY hF => ?_)
      simp only [phased, List.flatMap_cons, List.flatMap_nil, List.take_succ_cons, List.take_zero, List.drop_succ_cons, List.drop_zero, sel_true, sel_false, sel_nil, List.map_cons, List.map_nil, List.cons_append, List.nil_append, List.append_nil]
      repeat
        apply wpSeq_read (by first | rfl | (rw [hY]; rfl))
        · intro w2 hS2
          (try simp only [Keeps, Cells] at hS2)
          (try simp only [HasC, Cells] at hS2)
          go_simp
          with_reducible rfl
        simp only [Act.put, List.setIfInBounds_toArray, List.set_cons_zero, List.set_cons_succ]
      apply wpSeq_call (by first | rfl | (rw [hY]; rfl))
      · go_simp
        with_reducible exact ⟨rfl, rfl⟩
      refine (HZ.out _).mono ?_
      rintro e w1 ⟨rfl, hb1⟩
      have hk1 := (Keeps.start hCS).step hb1
      refine ⟨_, rfl, hk1, ?_⟩
      simp only [Act.put, List.setIfInBounds_toArray, List.set_cons_zero, List.set_cons_succ]
      repeat
        apply wpSeq_read (by first | rfl | (rw [hY]; rfl))
        · intro w2 hS2
          (try simp only [Keeps, Cells] at hS2)
          (try simp only [HasC, Cells] at hS2)
          go_simp
          with_reducible rfl
        simp only [Act.put, List.setIfInBounds_toArray, List.set_cons_zero, List.set_cons_succ]
      refine wpSeq_done (hF.out _ _ (fun K hK => ?_))
      clear hF hY
      refine OnlyK.mk (hK.out _ _ ?_)
      clear hK
      have hB1 := below_trans hB0 hk1.1
      skip
      go_wp2
      go_returns
      exact ⟨rfl, hB1⟩
end Go.Proofs.Ytgbjckjfjoiilaa

namespace Go.Proofs.Ytgbjckjfjoiilaa
open Go.RowKit

theorem elems_int1 : Elems Try.prog 75 3 1 8 [.int .i64 0] := ⟨Try.underlying75, by kernel_rfl, rfl, by decide⟩
def Nts (l : List Nat) : List Value := l.map fun i : Nat => Value.int .i64 (i : Int)
theorem Nts_one (l : List Nat) : ∀ u ∈ Nts l, u.oneCell' = true := by
  intro u hu
  obtain ⟨x, _, rfl⟩ := List.mem_map.1 hu
  rfl
theorem Nts_length (l : List Nat) : (Nts l).length = l.length := List.length_map _
theorem Nts_at {l : List Nat} {k : Nat} (h : k < l.length) : (Nts l)[k]? = some (.int .i64 ((l.getD k 0 : Nat) : Int)) := by
  unfold Nts
  rw [List.getElem?_map, List.getElem?_eq_getElem h, List.getD_eq_getElem?_getD, List.getElem?_eq_getElem h]
  rfl

theorem owns_mono {w : World} {base base' : Nat} {e : TypeId} {size n : Nat} {v : Value} {xs : List Value} (h : w.ownsRow base e size v n xs) (hb : base' ≤ base) : w.ownsRow base' e size v n xs := by
  refine ⟨h.1, ?_⟩
  rcases h.2 with h' | ⟨g, cap', cur, h', hb', r⟩
  · exact .inl h'
  · exact .inr ⟨g, cap', cur, h', Nat.le_trans hb hb', r⟩

theorem rmark10_any (h : Nat) (hh : h < 4294967296) (w : World) : Calls Try.prog 57 #[.int .u32 (h : Int)] w fun e w' => e = .returned (.int .u8 (S10.mark h : Int)) ∧ Below w.heap.size w w' := by
  have e : (h : Int) / 16777216 % 256 = (S10.mark h : Int) := by unfold S10.mark; omega
  have e2 : (h : Int) / 16777216 = (S10.mark h : Int) := by unfold S10.mark; omega
  have e3 : (h : Int).tdiv 16777216 = (S10.mark h : Int) := by rw [Int.tdiv_eq_ediv_of_nonneg (by omega)]; exact e2
  have e4 : (S10.mark h : Int) % 256 = (S10.mark h : Int) := by unfold S10.mark; omega
  go_enter Try.func57, Try.ntmps57
  go_wp2
  go_returns
  refine ⟨?_, by go_grown⟩
  first | rfl | simp [e, e2, e3, e4]

set_option maxRecDepth 100000 in
set_option maxHeartbeats 2000000 in
theorem rplaces10_any (bits hash : Nat) (hb : bits ≤ 16) (hh : hash < 4294967296) (w : World) :
    Calls Try.prog 34 #[.int .i64 (bits : Int), .int .u32 (hash : Int)] w fun e w' => ∃ a cap, e = .returned (.slice a (S10.places bits hash).length cap) ∧ w'.ownsRow w.heap.size 3 1 (.slice a (S10.places bits hash).length cap) (S10.places bits hash).length (Nts (S10.places bits hash)) ∧ Below w.heap.size w w' := by
  have HZ := Lib.hid fun W => size10_any bits (by omega) W
  have hn := pow_small hb
  have hn1 := Nat.two_pow_pos bits
  have hi : S10.first bits hash < 65536 := Nat.lt_of_lt_of_le (S10.first_lt bits hash) hn
  have hp := S10.plc_succ bits hash
  have hpl := S10.plc_len bits hash
  have h3 : S10.plc bits hash 3 = S10.places bits hash := rfl
  have hdef : S10.first bits hash = (hash * 2654435761 % 4294967296) % 2 ^ bits := rfl
  generalize S10.first bits hash = i at *
  generalize 2 ^ bits = N at *
  have ef : ((2654435761 * (hash : Int)) % 4294967296).tmod (N : Int) = (i : Int) := by
    rw [Int.tmod_eq_emod_of_nonneg (by omega), hdef]
    have e2 : (2654435761 * (hash : Int)) % 4294967296 = ((hash * 2654435761 % 4294967296 : Nat) : Int) := by omega
    rw [e2]; simp
  have H3 := Lib.hid h3
  have Hp := Lib.hid hp
  have Hl := Lib.hid hpl
  have hN0 : ((N : Int) == 0) = false := by simp; omega
  clear h3 hp hpl hdef
  go_enter Try.func34, Try.ntmps34
  go_wp2_with fail
  refine (HZ.out _).mono ?_
  rintro e w1 ⟨rfl, hb1⟩
  have hB1 : Below w.heap.size w w1 := below_trans (by go_grown) hb1
  have z1 : w.heap.size ≤ w1.heap.size := hB1.size
  go_wp2
  go_loopw [7, 8] (fun v t wr => ∃ k : Nat, k ≤ 3 ∧ t = .int .i64 (k : Int) ∧ wr.ownsRow w1.heap.size 3 1 v (S10.plc bits hash k).length (Nts (S10.plc bits hash k)) ∧ Below w1.heap.size w1 wr)
    (fun _ t _ => 3 - (intOf t).toNat)
  case atStart => exact ⟨0, by omega, rfl, ⟨rfl, .inl ⟨rfl, rfl⟩⟩, Below.refl _ _⟩
  case round =>
    obtain ⟨k, hk, rfl, hown, hB⟩ := hrel
    have zr := hB.size
    by_cases hlt : k < 3
    · have ex : Go.bits .xor .i64 (i : Int) (k : Int) = ((i ^^^ k : Nat) : Int) := bits_xor_nat i k (by omega) (by omega)
      have Hq := Lib.hid (Hp.out k)
      have hle := Hl.out k
      generalize S10.plc bits hash k = l at *
      generalize i ^^^ k = x at *
      by_cases hx : x < N
      · have Hq2 := Lib.hid (Hq.out.trans (if_pos hx))
        have Hx := Lib.hid hx
        obtain ⟨w2, hw2⟩ : ∃ w2, wr.alloc (.cells #[.int .i64 (x : Int)] 3) = w2 := ⟨_, rfl⟩
        have hb2 : Below wr.heap.size wr w2 := by rw [← hw2]; exact (Below.refl _ wr).alloc (Nat.le_refl _) _
        have hd2 : Blk w2 wr.heap.size [.int .i64 (x : Int)] 3 := by rw [← hw2]; exact Blk.new wr _ _
        obtain ⟨a1, cap1, rfl, _, _⟩ := owns_slice hown
        have Hown2 := Lib.hid (owns_step (B := 0) hown hb2)
        have Hd2 := Lib.hid (show Rd w2 (some ⟨wr.heap.size, 0, none⟩) (Nts [x]) from fun _ => ⟨_, 0, rfl, hd2.cells⟩)
        have z2 : w1.heap.size ≤ w2.heap.size := by have := hb2.size; omega
        clear hown hd2
        go_wp2_with (at_builtin; (try rw [hw2]); refine wpList_append_rd _ _ 75 3 1 8 _ w1.heap.size elems_int1 rfl rfl _ l.length (Nts l) rfl Hown2.out (some ⟨wr.heap.size, 0, none⟩) 1 1 (Nts [x]) rfl (by simp [Nts]) Hd2.out (Nts_one _) (by unfold maxLen; omega) (by omega) z2 ?_; intro a2 cap2 w3 hown3 hgrow3)
        have hB3 : Below w1.heap.size w1 w3 := Below.grown (below_trans hB hb2) hgrow3 z2 (fun j e => (owns_block Hown2.out e).1)
        refine ⟨⟨k + 1, by omega, by simp, ?_, hB3⟩, by simp [intOf]; omega⟩
        rw [Hq2.out]
        have e3 : Nts l ++ Nts [x] = Nts (l ++ [x]) := by unfold Nts; rw [List.map_append]
        rw [e3] at hown3
        simpa using hown3
      · have Hq2 := Lib.hid (Hq.out.trans (if_neg hx))
        go_wp2
        go_roundw
        case rel => exact ⟨k + 1, by omega, by simp, by rw [Hq2.out]; exact hown, hB⟩
        case measure => simp [intOf]; omega
    · obtain rfl : k = 3 := by omega
      have zB := below_trans hB1 hB
      rw [H3.out] at hown
      obtain ⟨a, cap, rfl, _, _⟩ := owns_slice hown
      have Hown := Lib.hid hown
      clear hown
      go_wp2
      go_returns
      exact ⟨a, cap, rfl, owns_mono Hown.out z1, zB⟩
end Go.Proofs.Ytgbjckjfjoiilaa

namespace Go.Proofs.Ytgbjckjfjoiilaa
open Go.RowKit

theorem getD_getE {l : List Nat} {k : Nat} (hlt : k < l.length) : l.getD k 0 = l[k]'hlt := by
  rw [List.getD_eq_getElem?_getD, List.getElem?_eq_getElem hlt]; rfl
theorem find_prefix_none {α : Type} {p : α → Bool} {l : List α} {k : Nat} (hk : k < l.length) (h : (l.take k).find? p = none) (hp : p l[k] = true) : l.find? p = some l[k] := by
  have e : l = l.take k ++ (l[k] :: l.drop (k + 1)) := by rw [← List.drop_eq_getElem_cons hk, List.take_append_drop]
  conv => lhs; rw [e]
  rw [List.find?_append, h, List.find?_cons]
  simp only [hp, Option.none_or]

theorem find_take_succ {α : Type} {p : α → Bool} {l : List α} {k : Nat} (hk : k < l.length) (h : (l.take k).find? p = none) : (l.take (k + 1)).find? p = if p l[k] = true then some l[k] else none := by
  rw [List.take_succ_eq_append_getElem hk, List.find?_append, h, List.find?_cons, List.find?_nil, Option.none_or]
  cases p l[k] <;> rfl

/-- The number of the slot; -1 if there is none. -/
def optI : Option Nat → Int
  | some i => (i : Int)
  | none => -1
theorem optI_max (o : Option Nat) : max (optI o) 0 = ((o.getD 0 : Nat) : Int) := by
  cases o with
  | none => rfl
  | some i => show max (i : Int) 0 = (i : Int); omega
theorem optI_ge (o : Option Nat) : decide (0 ≤ optI o) = o.isSome := by
  cases o with
  | none => rfl
  | some i => show decide (0 ≤ (i : Int)) = true; simp
def S10.findI (bits : Nat) (xs : List Int) (hash : Nat) : Int := optI (S10.find bits xs hash)

set_option maxRecDepth 100000 in
set_option maxHeartbeats 2000000 in
theorem rfind10_any (n hash : Nat) (hn : n ≤ 16) (hh : hash < 4294967296) (xs : List Int) (hl : xs.length = 16 * 2 ^ n) (a : Option Addr) (cap : Nat) (w : World) (hT : Tab xs a cap w) :
    Calls Try.prog 48 #[tabV (n : Int) xs a cap, .int .u32 (hash : Int)] w fun e w' => e = .returned (.int .i64 (S10.findI n xs hash)) ∧ Below w.heap.size w w' := by
  have HP := Lib.hid fun W => rplaces10_any n hash hn hh W
  have HM := Lib.hid fun W => rmark10_any hash hh W
  have hps := pow_small hn
  have hpp := Nat.two_pow_pos n
  obtain ⟨b, off, rfl, hcs⟩ := hT.rd (fun e => by have h1 := congrArg List.length e; rw [Bts_length, hl] at h1; simp only [List.length_nil] at h1; omega)
  have hfd : S10.find n xs hash = (S10.places n hash).find? fun i => xs.getD (16 * i) 0 == (S10.mark hash : Int) := rfl
  unfold S10.findI
  rw [hfd]
  obtain ⟨res, hres⟩ : ∃ res, optI ((S10.places n hash).find? fun i => xs.getD (16 * i) 0 == (S10.mark hash : Int)) = res := ⟨_, rfl⟩
  rw [hres]
  have hpl : ∀ i ∈ S10.places n hash, i < 2 ^ n := fun i h => S10.plc_lt h
  have hlen := S10.plc_len n hash 3
  have hlen2 : (S10.places n hash).length ≤ 3 := hlen
  obtain ⟨l, hll⟩ : ∃ l, S10.places n hash = l := ⟨_, rfl⟩
  rw [hll] at HP hres hpl hlen2
  clear hll
  generalize S10.mark hash = mk at *
  have hin : ∀ i ∈ l, 16 * i < xs.length ∧ i < 65536 := fun i h => by have := hpl i h; omega
  have Hin := Lib.hid hin
  have hcap := hT.cap
  have Hcap := Lib.hid hcap
  have HLs := Lib.hid (show xs.length ≤ 2097152 by omega)
  unfold tabV
  have Hres := Lib.hid hres
  clear hT hl hps hpp hpl hlen hres hfd hin hcap
  go_enter Try.func48, Try.ntmps48
  go_wp2_with fail
  refine (HP.out _).mono ?_
  rintro e w1 ⟨la, lc, rfl, hown, hb1⟩
  have hB1 : Below w.heap.size w w1 := below_trans ((Below.refl _ w).alloc (Nat.le_refl _) _) hb1
  have a1 : Blk w1 w.heap.size [.int .i64 (n : Int), .slice (some ⟨b, off, none⟩) xs.length cap] 26 := (Blk.new w _ _).step hb1
  have hrd := Rd.of_owns hown
  have Hrd := Lib.hid hrd
  clear hown hrd
  go_wp2
  go_loopw [6] (fun t wr => ∃ k : Nat, k ≤ l.length ∧ t = .int .i64 (k : Int) ∧ (l.take k).find? (fun i => xs.getD (16 * i) 0 == (mk : Int)) = none ∧ Below w1.heap.size w1 wr)
    (fun t _ => l.length - (intOf t).toNat)
  case atStart => exact ⟨0, by omega, rfl, rfl, Below.refl _ _⟩
  case round =>
    obtain ⟨k, hk, rfl, hno, hB⟩ := hrel
    have Hno := Lib.hid hno
    have hBr := below_trans hB1 hB
    have a2 := a1.step hB
    have c1 := a2.cell 1
    simp only [List.getElem?_cons_succ, List.getElem?_cons_zero] at c1
    clear hno
    by_cases hlt : k < l.length
    · obtain ⟨lb, lo, rfl, hlc⟩ := Hrd.out.step hB (fun e => by rw [← List.length_eq_zero_iff, Nts_length] at e; omega)
      have hx2 := hlc k _ (Nts_at hlt)
      have hg : l.getD k 0 = l[k]'hlt := getD_getE hlt
      rw [hg] at hx2
      clear hg
      have hmem := Hin.out (l[k]'hlt) (List.getElem_mem hlt)
      have hsn : (l.take (k + 1)).find? (fun i => xs.getD (16 * i) 0 == (mk : Int)) = if (xs.getD (16 * (l[k]'hlt)) 0 == (mk : Int)) = true then some (l[k]'hlt) else none := by
        exact find_take_succ hlt Hno.out
      have hfin := find_prefix_none (p := fun i => xs.getD (16 * i) 0 == (mk : Int)) hlt Hno.out
      have hcx : wr.cell? ⟨b, off + 16 * (l[k]'hlt), none⟩ = some (.int .u8 (xs.getD (16 * (l[k]'hlt)) 0)) := by
        exact rangeAt_step hcs hBr _ _ (Bts_at hmem.1)
      generalize l[k]'hlt = i at *
      generalize xs.getD (16 * i) 0 = v at *
      obtain ⟨hm1, hm2⟩ := hmem
      obtain ⟨j, hj⟩ : ∃ j, 16 * i = j := ⟨_, rfl⟩
      have eW : IntKind.i64.wrap (16 * (i : Int)) = (j : Int) := (i64_small (by omega) (by omega)).trans (by omega)
      rw [hj] at hcx hm1
      clear hj
      have hC2 : Cells wr [(⟨w.heap.size, 1, none⟩, .slice (some ⟨b, off, none⟩) xs.length cap), (⟨lb, lo + k, none⟩, .int .i64 (i : Int)), (⟨b, off + j, none⟩, .int .u8 v)] := ⟨c1, hx2, hcx, trivial⟩
      have Hsn := Lib.hid hsn
      have Hfin := Lib.hid hfin
      clear hsn hfin hlc
      go_wp2
      refine wp_region_seq 12 0 [(true, [true, true, true, true, true, true, true, true, true, true]), (false, [false, false, false, false, false, false, false, false, false, false, true]), (true, [false, false, false, false, false, false, false, false, false, false, false, true])] _ _ (Keeps wr [(⟨w.heap.size, 1, none⟩, .slice (some ⟨b, off, none⟩) xs.length cap), (⟨lb, lo + k, none⟩, .int .i64 (i : Int)), (⟨b, off + j, none⟩, .int .u8 v)]) (by kernel_rfl) (List.take_append_drop 12 _).symm (by kernel_rfl) (by kernel_rfl) (by kernel_rfl) (by kernel_rfl) (Keeps.start hC2) (fun Y Q4 F4 hY hF => ?_)
      simp only [phased, List.flatMap_cons, List.flatMap_nil, List.take_succ_cons, List.take_zero, List.drop_succ_cons, List.drop_zero, sel_true, sel_false, sel_nil, List.map_cons, List.map_nil, List.cons_append, List.nil_append, List.append_nil]
      repeat
        apply wpSeq_read (by first | rfl | (rw [hY]; rfl))
        · intro w2 hS2
          (try simp only [Keeps, Cells] at hS2)
          (try simp only [HasC, Cells] at hS2)
          go_simp
          with_reducible rfl
        simp only [Act.put, List.setIfInBounds_toArray, List.set_cons_zero, List.set_cons_succ]
      apply wpSeq_call (by first | rfl | (rw [hY]; rfl))
      · go_simp
        with_reducible exact ⟨rfl, rfl⟩
      refine (HM.out _).mono ?_
      rintro e w5 ⟨rfl, hb5⟩
      have hk5 := (Keeps.start hC2).step hb5
      refine ⟨_, rfl, hk5, ?_⟩
      simp only [Act.put, List.setIfInBounds_toArray, List.set_cons_zero, List.set_cons_succ]
      repeat
        apply wpSeq_read (by first | rfl | (rw [hY]; rfl))
        · intro w2 hS2
          (try simp only [Keeps, Cells] at hS2)
          (try simp only [HasC, Cells] at hS2)
          go_simp
          with_reducible rfl
        simp only [Act.put, List.setIfInBounds_toArray, List.set_cons_zero, List.set_cons_succ]
      refine wpSeq_done (hF.out _ _ (fun K hK => ?_))
      clear hF hY
      refine OnlyK.mk (hK.out _ _ ?_)
      clear hK
      have hB5 := below_trans hB hk5.1
      have hB6 := below_trans hB1 hB5
      have hx5 : w5.cell? ⟨lb, lo + k, none⟩ = some (.int .i64 (i : Int)) := hk5.2.2.1
      by_cases hv : (v == (mk : Int)) = true
      · have hr3 : res = (i : Int) := by rw [← Hres.out, Hfin.out hv]; rfl
        go_wp2
        go_returns
        exact ⟨by rw [hr3]; rfl, hB6⟩
      · have Hs2 := Lib.hid (Hsn.out.trans (if_neg hv))
        rw [Bool.not_eq_true] at hv
        go_wp2
        go_roundw
        case rel => exact ⟨k + 1, by omega, by simp, Hs2.out, hB5⟩
        case measure => simp [intOf]; omega
    · obtain rfl : k = l.length := by omega
      have hn := Hno.out
      rw [List.take_length] at hn
      have hr0 : res = -1 := by rw [← Hres.out, hn]; rfl
      go_wp2
      go_returns
      exact ⟨by rw [hr0]; rfl, hBr⟩

set_option maxHeartbeats 1000000 in
theorem rFind10_any (bits : Int) (xs : List Int) (hash : Nat) (hh : hash < 4294967296) (a : Option Addr) (cap : Nat) (w : World) (hT : Tab xs a cap w) :
    Calls Try.prog 22 #[tabV bits xs a cap, .int .u32 (hash : Int)] w fun e w' => e = .returned (.tuple #[.int .i64 (S10.findN bits xs hash : Int), .bool (S10.findB bits xs hash)]) ∧ Below w.heap.size w w' := by
  have HC := Lib.hid fun W (h : Tab xs a cap W) => rcheck10_any bits xs a cap W h
  by_cases hc : S10.check bits xs = 0
  · have e1 : S10.findN bits xs hash = (S10.find bits.toNat xs hash).getD 0 := if_pos hc
    have e2 : S10.findB bits xs hash = (S10.find bits.toNat xs hash).isSome := if_pos hc
    rw [e1, e2]
    rw [hc] at HC
    obtain ⟨n, rfl, hn, hl, _⟩ := S10.correct hc
    rw [Int.toNat_natCast]
    have HF := Lib.hid fun W (h : Tab xs a cap W) => rfind10_any n hash hn hh xs hl a cap W h
    have hm := optI_max (S10.find n xs hash)
    have hg := optI_ge (S10.find n xs hash)
    unfold S10.findI at HF
    generalize (S10.find n xs hash).getD 0 = i at *
    generalize (S10.find n xs hash).isSome = q at *
    generalize optI (S10.find n xs hash) = j at *
    unfold tabV at *
    clear e1 e2 hc hl
    go_enter Try.func22, Try.ntmps22
    go_wp2_with fail
    refine (HC.out _ (hT.step (by go_grown))).mono ?_
    rintro e w1 ⟨rfl, hb1⟩
    have hB1 : Below w.heap.size w w1 := below_trans (by go_grown) hb1
    have z1 : w.heap.size ≤ w1.heap.size := hB1.size
    have hc1 : Blk w1 w.heap.size [.int .i64 (n : Int), .slice a xs.length cap] 26 := (Blk.new w _ _).step hb1
    have k1 : w1.cell? ⟨w.heap.size, 0, none⟩ = some (.int .i64 (n : Int)) := hc1.cell 0
    have k2 : w1.cell? ⟨w.heap.size, 1, none⟩ = some (.slice a xs.length cap) := hc1.cell 1
    go_wp2_with fail
    refine (HF.out _ (hT.step hB1)).mono ?_
    rintro e w2 ⟨rfl, hb2⟩
    have hB2 : Below w.heap.size w w2 := below_trans (by go_grown) hb2
    have z2 : w.heap.size ≤ w2.heap.size := hB2.size
    go_wp2
    go_returns
    first | exact ⟨rfl, hB2⟩ | (refine ⟨?_, hB2⟩; simp [hm, hg])
  · have e1 : S10.findN bits xs hash = 0 := if_neg hc
    have e2 : S10.findB bits xs hash = false := if_neg hc
    rw [e1, e2]
    have hc' : (S10.check bits xs != 0) = true := by simpa using hc
    generalize S10.check bits xs = C at *
    unfold tabV at *
    clear hc e1 e2
    go_enter Try.func22, Try.ntmps22
    go_wp2_with fail
    refine (HC.out _ (hT.step (by go_grown))).mono ?_
    rintro e w1 ⟨rfl, hb1⟩
    have hB1 : Below w.heap.size w w1 := below_trans (by go_grown) hb1
    have z1 : w.heap.size ≤ w1.heap.size := hB1.size
    go_wp2
    go_returns
    exact ⟨rfl, hB1⟩
end Go.Proofs.Ytgbjckjfjoiilaa
