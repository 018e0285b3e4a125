/- The reference's Open (layer 10) where it fails or finds the slot. The reference's Open (layer 10) where it opens a slot anew. The reference's Open and Same (layer 10) for all arguments. No condition. -/
import Derived.Test.YtgbjckjfjoiilaaW10x
import Derived.Laws.BytesArg
set_option linter.unusedSimpArgs false
set_option linter.unusedVariables false
set_option linter.unusedSectionVars false
namespace Go.Proofs.Ytgbjckjfjoiilaa
open Go.RowKit

set_option maxHeartbeats 1000000 in
theorem ropen10_bad (bits : Int) (xs : List Int) (hash : Nat) (a : Option Addr) (cap : Nat) (w : World) (hT : Tab xs a cap w) (hc : ¬ S10.check bits xs = 0) :
    Calls Try.prog 24 #[tabV bits xs a cap, .int .u32 (hash : Int)] w fun e w' => e = .returned (.tuple #[.agg #[.int .i64 0, .slice none 0 0], .int .i64 0, .int .i64 (S10.check bits xs)]) ∧ Below w.heap.size w w' := by
  have HC := Lib.hid fun W (h : Tab xs a cap W) => rcheck10_any bits xs a cap W h
  unfold tabV at *
  have hc' : (S10.check bits xs != 0) = true := by simpa using hc
  obtain ⟨C, hC⟩ : ∃ C, S10.check bits xs = C := ⟨_, rfl⟩
  rw [hC] at hc' HC ⊢
  clear hc hC
  go_enter Try.func24, Try.ntmps24
  go_wp2_with fail
  refine (HC.out _ (hT.step (by go_grown))).mono ?_
  rintro e w1 ⟨rfl, hb1⟩
  have hB1 : Below w.heap.size w w1 := below_trans (by go_grown) hb1
  have z1 : w.heap.size ≤ w1.heap.size := hB1.size
  have hc2 : Blk w1 (w.heap.size + 1) [.int .i64 0, .slice none 0 0] 26 := by
    have h := (Blk.new (w.alloc (.cells #[.int .i64 bits, .slice a xs.length cap] 26)) [.int .i64 0, .slice none 0 0] 26).step hb1
    rwa [World.size_alloc] at h
  have r0 := hc2.cell 0
  have r1 := hc2.cell 1
  have f0 := hc2.free 0
  have f1 := hc2.free 1
  have g := (hc2.set 0 (.int .i64 0)).set 1 (.slice none 0 0)
  have g0 := g.cell 0
  have g1 := g.cell 1
  simp only [List.set_cons_zero, List.set_cons_succ, List.getElem?_cons_zero, List.getElem?_cons_succ] at g0 g1 r0 r1
  clear hc2 g
  go_wp2
  exact bodyPost_ret (v := .tuple #[.agg #[.int .i64 0, .slice none 0 0], .int .i64 0, .int .i64 C]) (by simp [results, Try.results24, go_sem, g0, g1]) rfl ⟨rfl, (hB1.setCell (p := ⟨w.heap.size + 1, 0, none⟩) (by simp) _).setCell (p := ⟨w.heap.size + 1, 1, none⟩) (by simp) _⟩

set_option maxHeartbeats 2000000 in
theorem ropen10_found (n : Nat) (xs : List Int) (hash i : Nat) (hn : n ≤ 16) (hl : xs.length = 16 * 2 ^ n) (hh : hash < 4294967296) (hc : S10.check (n : Int) xs = 0) (hi : S10.find n xs hash = some i) (a : Option Addr) (cap : Nat) (w : World) (hT : Tab xs a cap w) :
    Calls Try.prog 24 #[tabV (n : Int) xs a cap, .int .u32 (hash : Int)] w fun e w' => ∃ b cap', e = .returned (.tuple #[tabV (n : Int) xs (some ⟨b, 0, none⟩) cap', .int .i64 (i : Int), .int .i64 0]) ∧ OB w' w.heap.size b cap' xs ∧ Below w.heap.size w w' := by
  have HC := Lib.hid fun W (h : Tab xs a cap W) => rcheck10_any (n : Int) xs a cap W h
  rw [hc] at HC
  have hps := pow_small hn
  have hpp := Nat.two_pow_pos n
  have HCl := Lib.hid fun W (h : Rd W a (Bts xs)) => rcopy10_any (n : Int) xs a cap W (by omega) (by omega) h
  have HF := Lib.hid fun W (h : Tab xs a cap W) => rfind10_any n hash hn hh xs hl a cap W h
  unfold S10.findI at HF
  rw [hi] at HF
  have eo : optI (some i) = (i : Int) := rfl
  rw [eo] at HF
  have hi0 : (0 : Int) ≤ (i : Int) := by omega
  clear hc hl hps hpp eo
  unfold tabV at *
  go_enter Try.func24, Try.ntmps24
  go_wp2_with fail
  refine (HC.out _ (hT.step (by go_grown))).mono ?_
  rintro e w1 ⟨rfl, hb1⟩
  have hB1 : Below w.heap.size w w1 := below_trans (by go_grown) hb1
  have z1 : w.heap.size ≤ w1.heap.size := hB1.size
  have hc1 : Blk w1 w.heap.size [.int .i64 (n : Int), .slice a xs.length cap] 26 := ((Blk.new w _ _).alloc _).step hb1
  have hc2 : Blk w1 (w.heap.size + 1) [.int .i64 0, .slice none 0 0] 26 := by
    have h := (Blk.new (w.alloc (.cells #[.int .i64 (n : Int), .slice a xs.length cap] 26)) [.int .i64 0, .slice none 0 0] 26).step hb1
    rwa [World.size_alloc] at h
  have k1 := hc1.cell 0
  have k2 := hc1.cell 1
  simp only [List.getElem?_cons_zero, List.getElem?_cons_succ] at k1 k2
  go_wp2_with fail
  refine (HCl.out _ (hT.rd.step hB1)).mono ?_
  rintro e w2 ⟨b2, cap2, rfl, ho2, hb2⟩
  have hB2 := below_trans hB1 hb2
  have z2 := hB2.size
  have hd1 := hc1.step hb2
  have hd2 := hc2.step hb2
  have k3 := hd1.cell 0
  have k4 := hd1.cell 1
  simp only [List.getElem?_cons_zero, List.getElem?_cons_succ] at k3 k4
  have l1 := hd1.lt
  have l2 := hd2.lt
  go_wp2_with fail
  refine (HF.out _ ((hT.step hB2).step ((Below.refl _ w2).alloc (Nat.le_refl _) _))).mono ?_
  rintro e w3 ⟨rfl, hb3⟩
  have hb3' : Below w2.heap.size w2 w3 := below_trans ((Below.refl _ w2).alloc (Nat.le_refl _) _) hb3
  have hB3 := below_trans hB2 hb3'
  have hv3 : Blk w3 w2.heap.size [.int .i64 (n : Int), .slice (some ⟨b2, 0, none⟩) xs.length cap2] 26 := (Blk.new w2 _ _).step hb3
  have he2 := hd2.step hb3'
  have ho3 := ho2.step hb3'
  have q0 := hv3.cell 0
  have q1 := hv3.cell 1
  have r0 := he2.cell 0
  have r1 := he2.cell 1
  have f0 := he2.free 0
  have f1 := he2.free 1
  have g := (he2.set 0 (.int .i64 (n : Int))).set 1 (.slice (some ⟨b2, 0, none⟩) xs.length cap2)
  have g0 := g.cell 0
  have g1 := g.cell 1
  simp only [List.set_cons_zero, List.set_cons_succ, List.getElem?_cons_zero, List.getElem?_cons_succ] at q0 q1 g0 g1 r0 r1
  have zb : w.heap.size + 1 < b2 := by have := hc2.lt; have := ho2.1; omega
  have ho4 := ((ho3.mono (base' := w.heap.size) (by omega)).other (w.heap.size + 1) 0 (.int .i64 (n : Int)) (by omega)).other (w.heap.size + 1) 1 (.slice (some ⟨b2, 0, none⟩) xs.length cap2) (by omega)
  have Ho4 := Lib.hid ho4
  clear ho2 ho3 ho4 g he2 hv3 hd1 hd2 hc1 hc2
  go_wp2
  exact bodyPost_ret (v := .tuple #[.agg #[.int .i64 (n : Int), .slice (some ⟨b2, 0, none⟩) xs.length cap2], .int .i64 (i : Int), .int .i64 0]) (by simp [results, Try.results24, go_sem, g0, g1]) rfl ⟨b2, cap2, rfl, Ho4.out, (hB3.setCell (p := ⟨w.heap.size + 1, 0, none⟩) (by simp) _).setCell (p := ⟨w.heap.size + 1, 1, none⟩) (by simp) _⟩
end Go.Proofs.Ytgbjckjfjoiilaa

namespace Go.Proofs.Ytgbjckjfjoiilaa
open Go.RowKit

theorem take_snoc_getD {l : List Nat} {k : Nat} (hk : k < l.length) : l.take (k + 1) = l.take k ++ [l.getD k 0] := by
  rw [List.take_succ_eq_append_getElem hk, getD_getE hk]
theorem lstep_some (xs : List Int) (b x : Nat) : S10.lstep xs (some b) x = if S10.prio xs x < S10.prio xs b then some x else some b := rfl

set_option maxRecDepth 100000 in
set_option maxHeartbeats 4000000 in
theorem ropen10_new (n : Nat) (xs : List Int) (hash i : Nat) (hn : n ≤ 16) (hl : xs.length = 16 * 2 ^ n) (hh : hash < 4294967296) (hc : S10.check (n : Int) xs = 0) (hi : S10.find n xs hash = none) (hle : S10.least xs (S10.places n hash) = some i) (him : i < 2 ^ n) (a : Option Addr) (cap : Nat) (w : World) (hT : Tab xs a cap w) :
    Calls Try.prog 24 #[tabV (n : Int) xs a cap, .int .u32 (hash : Int)] w fun e w' => ∃ b cap', e = .returned (.tuple #[tabV (n : Int) xs (some ⟨b, 0, none⟩) cap', .int .i64 (i : Int), .int .i64 0]) ∧ OB w' w.heap.size b cap' (S10.fresh xs i (S10.mark hash)) ∧ Below w.heap.size w w' := by
  have HC := Lib.hid fun W (h : Tab xs a cap W) => rcheck10_any (n : Int) xs a cap W h
  rw [hc] at HC
  have hps := pow_small hn
  have hpp := Nat.two_pow_pos n
  have HCl := Lib.hid fun W (h : Rd W a (Bts xs)) => rcopy10_any (n : Int) xs a cap W (by omega) (by omega) h
  have HF := Lib.hid fun W (h : Tab xs a cap W) => rfind10_any n hash hn hh xs hl a cap W h
  unfold S10.findI at HF
  rw [hi] at HF
  have eo : optI none = -1 := rfl
  rw [eo] at HF
  have HPl := Lib.hid fun W => rplaces10_any n hash hn hh W
  have HPr := Lib.hid fun (k : Nat) (hk : k < 2 ^ n) W (h : Tab xs a cap W) => rprio10_any n xs k hn hl hk a cap W h
  have HM := Lib.hid fun V => rmark10_any hash hh V
  have hne := S10.places_ne n hash
  have hlt : ∀ j ∈ S10.places n hash, j < 2 ^ n := fun j h => S10.plc_lt h
  have hl3 : (S10.places n hash).length ≤ 3 := S10.plc_len n hash 3
  obtain ⟨l, hll⟩ : ∃ l, S10.places n hash = l := ⟨_, rfl⟩
  rw [hll] at HPl hne hlt hl3 hle
  obtain ⟨mk, hmk⟩ : ∃ mk, S10.mark hash = mk := ⟨_, rfl⟩
  rw [hmk] at HM ⊢
  have h1l : 1 ≤ l.length := List.length_pos_iff.2 hne
  have Hlt := Lib.hid fun k (hk : k < l.length) => hlt (l.getD k 0) (by rw [getD_getE hk]; exact List.getElem_mem hk)
  have Hin := Lib.hid (show 16 * i + 15 < xs.length by omega)
  have HLs := Lib.hid (show xs.length ≤ 1048576 by omega)
  have Hle := Lib.hid hle
  clear hc hl eo hi hll hmk hne hlt hle hpp
  unfold tabV at *
  go_enter Try.func24, Try.ntmps24
  go_wp2_with fail
  refine (HC.out _ (hT.step (by go_grown))).mono ?_
  rintro e w1 ⟨rfl, hb1⟩
  have hB1 : Below w.heap.size w w1 := below_trans (by go_grown) hb1
  have z1 : w.heap.size ≤ w1.heap.size := hB1.size
  have hc1 : Blk w1 w.heap.size [.int .i64 (n : Int), .slice a xs.length cap] 26 := ((Blk.new w _ _).alloc _).step hb1
  have hc2 : Blk w1 (w.heap.size + 1) [.int .i64 0, .slice none 0 0] 26 := by
    have h := (Blk.new (w.alloc (.cells #[.int .i64 (n : Int), .slice a xs.length cap] 26)) [.int .i64 0, .slice none 0 0] 26).step hb1
    rwa [World.size_alloc] at h
  have k1 := hc1.cell 0
  have k2 := hc1.cell 1
  simp only [List.getElem?_cons_zero, List.getElem?_cons_succ] at k1 k2
  go_wp2_with fail
  refine (HCl.out _ (hT.rd.step hB1)).mono ?_
  rintro e w2 ⟨b2, cap2, rfl, ho2, hb2⟩
  have hB2 := below_trans hB1 hb2
  have z2 := hB2.size
  have hd1 := hc1.step hb2
  have hd2 := hc2.step hb2
  have k3 := hd1.cell 0
  have k4 := hd1.cell 1
  simp only [List.getElem?_cons_zero, List.getElem?_cons_succ] at k3 k4
  have l1 := hd1.lt
  have l2 := hd2.lt
  go_wp2_with fail
  refine (HF.out _ ((hT.step hB2).step ((Below.refl _ w2).alloc (Nat.le_refl _) _))).mono ?_
  rintro e w3 ⟨rfl, hb3⟩
  have hb3' : Below w2.heap.size w2 w3 := below_trans ((Below.refl _ w2).alloc (Nat.le_refl _) _) hb3
  have hB3 := below_trans hB2 hb3'
  have hv3 : Blk w3 w2.heap.size [.int .i64 (n : Int), .slice (some ⟨b2, 0, none⟩) xs.length cap2] 26 := (Blk.new w2 _ _).step hb3
  have he1 := hd1.step hb3'
  have he2 := hd2.step hb3'
  have ho3 := ho2.step hb3'
  have m1 := he1.cell 0
  simp only [List.getElem?_cons_zero] at m1
  have zb : w.heap.size + 1 < b2 := by have := hc2.lt; have := ho2.1; omega
  have zb2 : b2 < w2.heap.size := ho2.lt
  go_wp2_with fail
  refine (HPl.out _).mono ?_
  rintro e w4 ⟨la, lc, rfl, hown, hb4⟩
  have hB4 := below_trans hB3 hb4
  have hv4 := hv3.step hb4
  have hf1 := he1.step hb4
  have hf2 := he2.step hb4
  have ho4 := ho3.step hb4
  have zb3 : w2.heap.size < w3.heap.size := hv3.lt
  have hrd := Rd.of_owns hown
  obtain ⟨lb, lo, rfl, hlc⟩ := hrd (fun e => by rw [← List.length_eq_zero_iff, Nts_length] at e; omega)
  have hx0 := hlc 0 _ (Nts_at (show 0 < l.length by omega))
  rw [Nat.add_zero] at hx0
  have Hlc := Lib.hid hlc
  have hk1 : S10.least xs (l.take 1) = some (l.getD 0 0) := by
    rw [take_snoc_getD (show 0 < l.length by omega)]; rfl
  have Hk1 := Lib.hid hk1
  have hx0l := (Hlt.out 0 (by omega))
  obtain ⟨x0, hx0e⟩ : ∃ x0, l.getD 0 0 = x0 := ⟨_, rfl⟩
  rw [hx0e] at hx0 Hk1 hx0l
  clear hown hrd hlc hc1 hc2 hd1 hd2 k1 k2 k3 k4 m1 he1 he2 hk1 hx0e
  go_wp2
  go_loopw [11, 12] (fun bv t wr => ∃ k bst : Nat, 1 ≤ k ∧ k ≤ l.length ∧ t = .int .i64 (k : Int) ∧ bv = .int .i64 (bst : Int) ∧ bst < 2 ^ n ∧ S10.least xs (l.take k) = some bst ∧ Below w4.heap.size w4 wr)
    (fun _ t _ => l.length - (intOf t).toNat)
  case atStart => exact ⟨1, x0, by omega, by omega, rfl, rfl, hx0l, Hk1.out, Below.refl _ _⟩
  case round =>
    obtain ⟨k, bst, hk0, hk, rfl, rfl, hbst, hls, hB⟩ := hrel
    have Hls := Lib.hid hls
    have hBr := below_trans hB4 hB
    clear hls
    by_cases hlt : k < l.length
    · have hx := (hB.cell (block_lt_of_cell (Hlc.out k _ (Nts_at hlt)))).trans (Hlc.out k _ (Nts_at hlt))
      have hxl := Hlt.out k hlt
      have hsn : S10.least xs (l.take (k + 1)) = if S10.prio xs (l.getD k 0) < S10.prio xs bst then some (l.getD k 0) else some bst := by
        rw [take_snoc_getD hlt, S10.least_snoc, Hls.out, lstep_some]
      obtain ⟨x, hxe⟩ : ∃ x, l.getD k 0 = x := ⟨_, rfl⟩
      rw [hxe] at hx hxl hsn
      have P1 := Lib.hid fun V hV => HPr.out x hxl V hV
      have P2 := Lib.hid fun V hV => HPr.out bst hbst V hV
      obtain ⟨px, hpx⟩ : ∃ px, S10.prio xs x = px := ⟨_, rfl⟩
      obtain ⟨pb, hpb⟩ : ∃ pb, S10.prio xs bst = pb := ⟨_, rfl⟩
      rw [hpx] at P1 hsn
      rw [hpb] at P2 hsn
      have Hsn := Lib.hid hsn
      have Hxl := Lib.hid hxl
      have Hbst := Lib.hid hbst
      have hg1 := hf1.step hB
      have q0 := hg1.cell 0
      have q1 := hg1.cell 1
      simp only [List.getElem?_cons_zero, List.getElem?_cons_succ] at q0 q1
      have hC2 : Cells wr [(⟨w.heap.size, 0, none⟩, .int .i64 (n : Int)), (⟨w.heap.size, 1, none⟩, .slice a xs.length cap), (⟨lb, lo + k, none⟩, .int .i64 (x : Int))] := ⟨q0, q1, hx, trivial⟩
      clear hsn hxl hbst hpx hpb hxe
      go_wp2
      refine wp_region_seq 10 0 [(true, [true, true, true, true, true, false, true, true]), (false, [false, false, false, false, false, true]), (false, [false, false, false, false, false, false, false, false, true]), (true, [false, false, false, false, false, false, false, false, false, true])] _ _ (Keeps wr [(⟨w.heap.size, 0, none⟩, .int .i64 (n : Int)), (⟨w.heap.size, 1, none⟩, .slice a xs.length cap), (⟨lb, lo + k, none⟩, .int .i64 (x : Int))]) (by kernel_rfl) (List.take_append_drop 10 _).symm (by kernel_rfl) (by kernel_rfl) (by kernel_rfl) (by kernel_rfl) (Keeps.start hC2) (fun Y Q4 F4 hY hF => ?_)
      simp only [phased, List.flatMap_cons, List.flatMap_nil, List.take_succ_cons, List.take_zero, List.drop_succ_cons, List.drop_zero, sel_true, sel_false, sel_nil, List.map_cons, List.map_nil, List.cons_append, List.nil_append, List.append_nil]
      repeat
        apply wpSeq_read (by first | rfl | (rw [hY]; rfl))
        · intro w2 hS2
          (try simp only [Keeps, Cells] at hS2)
          (try simp only [HasC, Cells] at hS2)
          go_simp
          with_reducible rfl
        simp only [Act.put, List.setIfInBounds_toArray, List.set_cons_zero, List.set_cons_succ]
      apply wpSeq_call (by first | rfl | (rw [hY]; rfl))
      · go_simp
        with_reducible exact ⟨rfl, rfl⟩
      refine (P1.out _ (hT.step (below_trans hBr (Keeps.start hC2).1))).mono ?_
      rintro e w5 ⟨rfl, hb5⟩
      have hk5 := (Keeps.start hC2).step hb5
      refine ⟨_, rfl, hk5, ?_⟩
      simp only [Act.put, List.setIfInBounds_toArray, List.set_cons_zero, List.set_cons_succ]
      apply wpSeq_call (by first | rfl | (rw [hY]; rfl))
      · go_simp
        with_reducible exact ⟨rfl, rfl⟩
      refine (P2.out _ (hT.step (below_trans hBr hk5.1))).mono ?_
      rintro e w6 ⟨rfl, hb6⟩
      have hk6 := hk5.step hb6
      refine ⟨_, rfl, hk6, ?_⟩
      simp only [Act.put, List.setIfInBounds_toArray, List.set_cons_zero, List.set_cons_succ]
      repeat
        apply wpSeq_read (by first | rfl | (rw [hY]; rfl))
        · intro w2 hS2
          (try simp only [Keeps, Cells] at hS2)
          (try simp only [HasC, Cells] at hS2)
          go_simp
          with_reducible rfl
        simp only [Act.put, List.setIfInBounds_toArray, List.set_cons_zero, List.set_cons_succ]
      refine wpSeq_done (hF.out _ _ (fun K hK => ?_))
      clear hF hY
      refine OnlyK.mk (hK.out _ _ ?_)
      clear hK
      have hB6 := below_trans hB hk6.1
      have hx6 : w6.cell? ⟨lb, lo + k, none⟩ = some (.int .i64 (x : Int)) := hk6.2.2.2.1
      clear hk5 hk6 hC2 hb5 hb6
      by_cases hv : px < pb
      · have Hs2 := Lib.hid (Hsn.out.trans (if_pos hv))
        go_wp2
        go_roundw
        case rel => exact ⟨k + 1, x, by omega, by omega, by simp, rfl, Hxl.out, Hs2.out, hB6⟩
        case measure => simp [intOf]; omega
      · have Hs2 := Lib.hid (Hsn.out.trans (if_neg hv))
        go_wp2
        go_roundw
        case rel => exact ⟨k + 1, bst, by omega, by omega, by simp, rfl, Hbst.out, Hs2.out, hB6⟩
        case measure => simp [intOf]; omega
    · obtain rfl : k = l.length := by omega
      have hls := Hls.out
      rw [List.take_length, Hle.out] at hls
      obtain rfl : i = bst := Option.some.inj hls
      clear hls
      have hv5 := hv4.step hB
      have hg2 := hf2.step hB
      have ho5 := ho4.step hB
      have hin := Hin.out
      have hLs := HLs.out
      have hcap2 := ho2.2.1
      have Him := Lib.hid him
      have Hho2 := Lib.hid ho2
      clear hbst hlt him hf1 hf2 hv4 ho4 ho3 ho2 hv3
      go_wp2
      go_loopw [13] (fun t wz => ∃ k : Nat, k ≤ 16 ∧ t = .int .i64 (k : Int) ∧ Blk wz w2.heap.size [.int .i64 (n : Int), .slice (some ⟨b2, 0, none⟩) xs.length cap2] 26 ∧ Blk wz (w.heap.size + 1) [.int .i64 0, .slice none 0 0] 26 ∧
          OB wz w1.heap.size b2 cap2 (S10.setMany xs (16 * i) (List.replicate k 0)) ∧ Below w.heap.size w wz)
        (fun t _ => 16 - (intOf t).toNat)
      case atStart => exact ⟨0, by omega, rfl, hv5, hg2, ho5, hBr⟩
      case round =>
        obtain ⟨k, hk, rfl, d1, d2, do3, hBz⟩ := hrel
        by_cases hlt : k < 16
        · have c1 := d1.cell 1
          simp only [List.getElem?_cons_zero, List.getElem?_cons_succ] at c1
          have p0 : wr.cell? ⟨b2, 16 * i + k, none⟩ = some (.int .u8 ((S10.setMany xs (16 * i) (List.replicate k 0)).getD (16 * i + k) 0)) := do3.at (by rw [setMany_len]; omega)
          have p1 : wr.frozen? ⟨b2, 16 * i + k, none⟩ = false := do3.free _
          have D1 := Lib.hid (d1.other b2 (16 * i + k) (.int .u8 0) (by omega))
          have D2 := Lib.hid (d2.other b2 (16 * i + k) (.int .u8 0) (by omega))
          have D3 := Lib.hid (show OB (wr.setCell ⟨b2, 16 * i + k, none⟩ (.int .u8 0)) w1.heap.size b2 cap2 (S10.setMany xs (16 * i) (List.replicate (k + 1) 0)) by
            rw [List.replicate_succ', setMany_snoc, List.length_replicate]; exact do3.set (16 * i + k) 0)
          have HB1 := Lib.hid (hBz.setCell (p := ⟨b2, 16 * i + k, none⟩) (show w.heap.size ≤ b2 by omega) (.int .u8 0))
          clear d1 d2 do3
          go_wp2
          go_roundw
          case rel => exact ⟨k + 1, by omega, by simp, D1.out, D2.out, D3.out, HB1.out⟩
          case measure => simp [intOf]; omega
        · obtain rfl : k = 16 := by omega
          have c1 := d1.cell 1
          simp only [List.getElem?_cons_zero, List.getElem?_cons_succ] at c1
          have hC2 : Cells wr [(⟨w2.heap.size, 1, none⟩, .slice (some ⟨b2, 0, none⟩) xs.length cap2)] := ⟨c1, trivial⟩
          have p0 : wr.cell? ⟨b2, 16 * i, none⟩ = some (.int .u8 ((S10.setMany xs (16 * i) (List.replicate 16 0)).getD (16 * i) 0)) := do3.at (by rw [setMany_len]; omega)
          have p1 : wr.frozen? ⟨b2, 16 * i, none⟩ = false := do3.free _
          obtain ⟨v0, hv0⟩ : ∃ v0, (S10.setMany xs (16 * i) (List.replicate 16 0)).getD (16 * i) 0 = v0 := ⟨_, rfl⟩
          rw [hv0] at p0
          clear hv0
          have ef : (S10.setMany xs (16 * i) (List.replicate 16 0)).set (16 * i) (mk : Int) = S10.fresh xs i mk := rfl
          have eW : IntKind.i64.wrap (16 * (i : Int)) = ((16 * i : Nat) : Int) := (i64_small (by omega) (by omega)).trans (by omega)
          obtain ⟨j, hj⟩ : ∃ j, 16 * i = j := ⟨_, rfl⟩
          rw [hj] at eW p0 p1 ef do3
          have Hjf := Lib.hid ef
          have hjl : j < xs.length := by omega
          have Hdo := Lib.hid do3
          clear hj do3 ef
          go_wp2
          refine wp_region_seq 6 2 [(true, [true, true, true, true, true]), (false, [false, false, false, false, false, true])] _ _ (Keeps wr [(⟨w2.heap.size, 1, none⟩, .slice (some ⟨b2, 0, none⟩) xs.length cap2)]) (by kernel_rfl) (List.take_append_drop 6 _).symm (by kernel_rfl) (by kernel_rfl) (by kernel_rfl) (by kernel_rfl) (Keeps.start hC2) (fun Y Q4 F4 hY hF => ?_)
          simp only [phased, List.flatMap_cons, List.flatMap_nil, List.take_succ_cons, List.take_zero, List.drop_succ_cons, List.drop_zero, sel_true, sel_false, sel_nil, List.map_cons, List.map_nil, List.cons_append, List.nil_append, List.append_nil]
          repeat
            apply wpSeq_read (by first | rfl | (rw [hY]; rfl))
            · intro w2 hS2
              (try simp only [Keeps, Cells] at hS2)
              (try simp only [HasC, Cells] at hS2)
              go_simp
              with_reducible rfl
            simp only [Act.put, List.setIfInBounds_toArray, List.set_cons_zero, List.set_cons_succ]
          apply wpSeq_call (by first | rfl | (rw [hY]; rfl))
          · go_simp
            with_reducible exact ⟨rfl, rfl⟩
          refine (HM.out _).mono ?_
          rintro e w6 ⟨rfl, hb6⟩
          have hk6 := (Keeps.start hC2).step hb6
          refine ⟨_, rfl, hk6, ?_⟩
          simp only [Act.put, List.setIfInBounds_toArray, List.set_cons_zero, List.set_cons_succ]
          refine wpSeq_done (hF.out _ _ (fun K hK => ?_))
          clear hF hY
          have e1 := d1.step hk6.1
          have e2 := d2.step hk6.1
          have e3 := Hdo.out.step hk6.1
          have q0 := (e1.other b2 j (.int .u8 (mk : Int)) (by omega)).cell 0
          have q1 := (e1.other b2 j (.int .u8 (mk : Int)) (by omega)).cell 1
          have p2 := (hk6.1.cell (block_lt_of_cell p0)).trans p0
          have p3 : w6.frozen? ⟨b2, j, none⟩ = false := e3.free _
          have e4 := e2.other b2 j (.int .u8 (mk : Int)) (by omega)
          have r0 := e2.cell 0
          have r1 := e2.cell 1
          have f0 := e2.free 0
          have f1 := e2.free 1
          have g := (e4.set 0 (.int .i64 (n : Int))).set 1 (.slice (some ⟨b2, 0, none⟩) xs.length cap2)
          have g0 := g.cell 0
          have g1 := g.cell 1
          simp only [List.set_cons_zero, List.set_cons_succ, List.getElem?_cons_zero, List.getElem?_cons_succ] at q0 q1 g0 g1 r0 r1
          have ho9 := (((e3.set j (mk : Int)).mono (base' := w.heap.size) (by omega)).other (w.heap.size + 1) 0 (.int .i64 (n : Int)) (by omega)).other (w.heap.size + 1) 1 (.slice (some ⟨b2, 0, none⟩) xs.length cap2) (by omega)
          rw [Hjf.out] at ho9
          have Ho9 := Lib.hid ho9
          have HB6 := Lib.hid ((((below_trans hBz hk6.1).setCell (p := ⟨b2, j, none⟩) (by simp; omega) (.int .u8 (mk : Int))).setCell (p := ⟨w.heap.size + 1, 0, none⟩) (by simp) (.int .i64 (n : Int))).setCell (p := ⟨w.heap.size + 1, 1, none⟩) (by simp) (.slice (some ⟨b2, 0, none⟩) xs.length cap2))
          clear ho9 g e1 e2 e3 e4 d1 d2 hk6 hb6 hC2 p0 p1 c1 ho5 hv5 hg2
          go_wp2_with fail
          refine OnlyK.mk (hK.out _ _ ?_)
          clear hK
          go_wp2
          exact bodyPost_ret (v := .tuple #[.agg #[.int .i64 (n : Int), .slice (some ⟨b2, 0, none⟩) xs.length cap2], .int .i64 (i : Int), .int .i64 0]) (by simp [results, Try.results24, go_sem, g0, g1]) rfl ⟨b2, cap2, rfl, Ho9.out, HB6.out⟩
end Go.Proofs.Ytgbjckjfjoiilaa

namespace Go.Proofs.Ytgbjckjfjoiilaa
open Go.RowKit

theorem ropen10_any (bits : Int) (xs : List Int) (hash : Nat) (hh : hash < 4294967296) (a : Option Addr) (cap : Nat) (w : World) (hT : Tab xs a cap w) :
    Calls Try.prog 24 #[tabV bits xs a cap, .int .u32 (hash : Int)] w fun e w' => ∃ V, e = .returned (.tuple #[V, .int .i64 (S10.openN bits xs hash : Int), .int .i64 (S10.check bits xs)]) ∧ TO w' w.heap.size (S10.openB bits xs) (S10.openX bits xs hash) V ∧ Below w.heap.size w w' := by
  by_cases hc : S10.check bits xs = 0
  · have e1 : S10.openB bits xs = bits := if_pos hc
    have e2 : S10.openN bits xs hash = ((S10.find bits.toNat xs hash).getD ((S10.least xs (S10.places bits.toNat hash)).getD 0)) := if_pos hc
    have e3 : S10.openX bits xs hash = (if (S10.find bits.toNat xs hash).isSome then xs else S10.fresh xs (S10.openN bits xs hash) (S10.mark hash)) := if_pos hc
    rw [e3, e2, e1, hc]
    obtain ⟨n, rfl, hn, hl, _⟩ := S10.correct hc
    rw [Int.toNat_natCast]
    cases hi : S10.find n xs hash with
    | some i =>
      refine (ropen10_found n xs hash i hn hl hh hc hi a cap w hT).mono ?_
      rintro e w' ⟨b', cap', rfl, ho, hb⟩
      exact ⟨_, rfl, TO.tab ho rfl, hb⟩
    | none =>
      obtain ⟨i, hle, him, _⟩ := S10.least_ok xs n hash
      refine (ropen10_new n xs hash i hn hl hh hc hi hle him a cap w hT).mono ?_
      rintro e w' ⟨b', cap', rfl, ho, hb⟩
      rw [hle]
      simp only [Option.getD_none, Option.getD_some, Option.isSome_none, Bool.false_eq_true, if_false]
      exact ⟨_, rfl, TO.tab ho (by unfold S10.fresh; rw [List.length_set, setMany_len]), hb⟩
  · have e1 : S10.openB bits xs = 0 := if_neg hc
    have e2 : S10.openN bits xs hash = 0 := if_neg hc
    have e3 : S10.openX bits xs hash = [] := if_neg hc
    rw [e3, e2, e1]
    refine (ropen10_bad bits xs hash a cap w hT hc).mono ?_
    rintro e w' ⟨rfl, hb⟩
    exact ⟨_, rfl, TO.nil _ _, hb⟩

/-- Bytes. -/
def OK8 (xs : List Int) : Prop := ∀ x ∈ xs, 0 ≤ x ∧ x < 256
/-- Its bytes lie at n or beyond. -/
def Fr (a : Option Addr) (n : Nat) : Prop := ∀ b o, a = some ⟨b, o, none⟩ → n ≤ b
theorem Fr.mono {a : Option Addr} {n m : Nat} (h : Fr a n) (hm : m ≤ n) : Fr a m := fun b o e => Nat.le_trans hm (h b o e)
theorem TO.open {w : World} {base : Nat} {bits : Int} {xs : List Int} {V : Value} (h : TO w base bits xs V) (hok : OK8 xs) : ∃ a cap, V = tabV bits xs a cap ∧ Tab xs a cap w ∧ Fr a base := by
  rcases h with ⟨rfl, rfl, rfl⟩ | ⟨b, cap, rfl, ho⟩
  · exact ⟨none, 0, rfl, ⟨hok, Nat.le_refl _, Rd.nil _ _⟩, fun b o e => by cases e⟩
  · exact ⟨_, _, rfl, ⟨hok, ho.2.1, ho.rd⟩, fun b o e => by cases e; exact ho.1⟩
theorem Tab.other {xs : List Int} {a : Option Addr} {cap n : Nat} {w : World} (h : Tab xs a cap w) (hf : Fr a n) (c i : Nat) (v : Value) (hc : c < n) : Tab xs a cap (w.setCell ⟨c, i, none⟩ v) := by
  refine ⟨h.ok, h.cap, fun hne => ?_⟩
  obtain ⟨b, o, rfl, hr⟩ := h.rd hne
  have hb := hf b o rfl
  refine ⟨b, o, rfl, fun j u hu => ?_⟩
  rw [World.cell?_setCell_other _ _ _ _ (fun e => by
    have := congrArg Addr.block e
    simp only at this
    omega)]
  exact hr j u hu
theorem Tab.alloc {xs : List Int} {a : Option Addr} {cap : Nat} {w : World} (h : Tab xs a cap w) (o : Obj) : Tab xs a cap (w.alloc o) := h.step ((Below.refl _ w).alloc (Nat.le_refl _) o)
theorem OK8.set {xs : List Int} (h : OK8 xs) (i : Nat) (v : Int) (hv : 0 ≤ v ∧ v < 256) : OK8 (xs.set i v) := fun x hx => by
  rcases List.mem_or_eq_of_mem_set hx with h1 | rfl
  · exact h x h1
  · exact hv
theorem OK8.setMany : ∀ (ys : List Int) (i : Nat) (xs : List Int), OK8 xs → OK8 ys → OK8 (S10.setMany xs i ys)
  | [], i, xs, h, _ => h
  | y :: ys, i, xs, h, h2 => OK8.setMany ys (i + 1) _ (h.set i y (h2 y List.mem_cons_self)) (fun x hx => h2 x (List.mem_cons_of_mem _ hx))
theorem OK8.zeros (n : Nat) : OK8 (List.replicate n 0) := fun x hx => by rw [List.eq_of_mem_replicate hx]; omega
theorem S10.mark_lt {h : Nat} (hh : h < 4294967296) : S10.mark h < 256 := by unfold S10.mark; omega
theorem OK8.fresh {xs : List Int} (h : OK8 xs) (n mk : Nat) (hm : mk < 256) : OK8 (S10.fresh xs n mk) := by
  unfold S10.fresh
  exact (OK8.setMany _ _ _ h (OK8.zeros _)).set _ _ ⟨by omega, by omega⟩
theorem OK8.openX {xs : List Int} (h : OK8 xs) (bits : Int) (hash : Nat) (hh : hash < 4294967296) : OK8 (S10.openX bits xs hash) := by
  have hm := S10.mark_lt hh
  have hf := OK8.fresh h (S10.openN bits xs hash) (S10.mark hash) hm
  by_cases hc : S10.check bits xs = 0
  · have e3 : S10.openX bits xs hash = (if (S10.find bits.toNat xs hash).isSome then xs else S10.fresh xs (S10.openN bits xs hash) (S10.mark hash)) := if_pos hc
    rw [e3]
    split
    · exact h
    · exact hf
  · have e3 : S10.openX bits xs hash = [] := if_neg hc
    rw [e3]
    intro x hx; cases hx
theorem OK8.setX {xs : List Int} (h : OK8 xs) (bits n k st : Int) : OK8 (S10.setX bits xs n k st) := by
  by_cases hc : S10.setE bits xs n k st = 0
  · have e2 : S10.setX bits xs n k st = xs.set (16 * n.toNat + k.toNat) st := if_pos hc
    rw [e2]
    refine h.set _ _ ?_
    unfold S10.setE at hc
    split at hc
    · split at hc
      · omega
      · cases hc
    · rename_i h1; exact absurd hc h1
  · have e2 : S10.setX bits xs n k st = [] := if_neg hc
    rw [e2]
    intro x hx; cases hx
theorem OK8.newX (bits : Int) : OK8 (S10.newX bits) := by
  unfold S10.newX
  split
  · exact OK8.zeros _
  · intro x hx; cases hx

theorem conv10 (xs : List Int) (a : Option Addr) (cap : Nat) (w : World) (hrd : Rd w a (Bts xs)) : (convert 24 9 (.slice a xs.length cap)).run Try.prog w = .ok (.string (strOfNums xs)) w := by
  by_cases hne : xs = []
  · subst hne
    have he : strOfNums [] = ByteArray.empty := rfl
    cases a with
    | none => rw [he]; exact run_convert_bytes_nil w 24 5 Try.underlying24 Try.underlying5 _ _ 9 Try.underlying9
    | some ad =>
      obtain ⟨b, o, sp⟩ := ad
      have h := run_convert_bytes_string (P := Try.prog) w 24 9 5 (some ⟨b, o, sp⟩) 0 cap Try.underlying24 Try.underlying5 Try.underlying9
      rw [he]
      have hl := run_loadCells_list (P := Try.prog) w ⟨b, o, sp⟩ [] (fun j v hj => by simp at hj)
      simp only [List.length_nil] at hl
      refine h.trans ?_
      simp [Conv.bytesToString, hl]
  · obtain ⟨b, o, rfl, hr⟩ := hrd (fun e => hne (by have := congrArg List.length e; rw [Bts_length] at this; exact List.length_eq_zero_iff.1 (by simpa using this)))
    exact run_convert_bytes_arg w 24 5 Try.underlying24 Try.underlying5 b o xs.length cap xs rfl (fun i hi => hr i _ (Bts_at hi)) 9 Try.underlying9

set_option maxRecDepth 100000 in
set_option maxHeartbeats 1000000 in
theorem same10_any (bx cy : Int) (xs ys : List Int) (a b : Option Addr) (c d : Nat) (w : World) (hx : Rd w a (Bts xs)) (hy : Rd w b (Bts ys)) :
    Calls Try.prog 18 #[tabV bx xs a c, tabV cy ys b d] w fun e w' => e = .returned (.bool (decide (bx = cy) && ((strOfNums xs).toList == (strOfNums ys).toList))) ∧ Below w.heap.size w w' := by
  obtain ⟨w0, hw0⟩ : ∃ w0, (w.alloc (Obj.cells #[.int .i64 bx, .slice a xs.length c] 26)).alloc (Obj.cells #[.int .i64 cy, .slice b ys.length d] 26) = w0 := ⟨_, rfl⟩
  have hb0 : Below w.heap.size w w0 := by rw [← hw0]; go_grown
  have a1 : Blk w0 w.heap.size [.int .i64 bx, .slice a xs.length c] 26 := by rw [← hw0]; exact (Blk.new w _ _).alloc _
  have a2 : Blk w0 (w.heap.size + 1) [.int .i64 cy, .slice b ys.length d] 26 := by
    have h := Blk.new (w.alloc (Obj.cells #[.int .i64 bx, .slice a xs.length c] 26)) [.int .i64 cy, .slice b ys.length d] 26
    rw [← hw0]; simpa using h
  have h1 := conv10 xs a c _ (hx.step hb0)
  have h2 := conv10 ys b d _ (hy.step hb0)
  have k0 := a1.cell 0
  have k1 := a1.cell 1
  have k2 := a2.cell 0
  have k3 := a2.cell 1
  simp only [List.getElem?_cons_zero, List.getElem?_cons_succ] at k0 k1 k2 k3
  obtain ⟨s1, hs1⟩ : ∃ s1, strOfNums xs = s1 := ⟨_, rfl⟩
  obtain ⟨s2, hs2⟩ : ∃ s2, strOfNums ys = s2 := ⟨_, rfl⟩
  rw [hs1] at h1 ⊢
  rw [hs2] at h2 ⊢
  clear hx hy a1 a2 hs1 hs2
  unfold tabV
  by_cases h : bx = cy
  · subst h
    go_enter Try.func18, Try.ntmps18
    go_wp2
    go_returns
    exact ⟨by simp, hb0⟩
  · have h' : (bx == cy) = false := by simpa using h
    go_enter Try.func18, Try.ntmps18
    go_wp2
    go_returns
    exact ⟨by simp [h], hb0⟩
end Go.Proofs.Ytgbjckjfjoiilaa
