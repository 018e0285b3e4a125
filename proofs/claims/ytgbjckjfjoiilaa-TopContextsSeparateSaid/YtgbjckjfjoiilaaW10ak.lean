/- The law SlotsReplaces, walked. No condition. -/
import Derived.Test.YtgbjckjfjoiilaaW10aj
import Derived.Test.YtgbjckjfjoiilaaShelf
set_option linter.unusedSimpArgs false
set_option linter.unusedVariables false
set_option linter.unusedSectionVars false
namespace Go.Proofs.Ytgbjckjfjoiilaa
open Go.RowKit

/-- What the law asks for of opening. -/
structure Opened (n : Nat) (X Z : List Int) (h i mk : Nat) (was : Bool) : Prop where
  len : Z.length = X.length
  lt : 16 * i + 16 ≤ X.length
  same : ∀ k, 16 * k + 16 ≤ X.length → (was = true ∨ k ≠ i) → S10.slotB X k = S10.slotB Z k
  mark : Z.getD (16 * i) 0 = (mk : Int)
  zero : was = false → ∀ j, 1 ≤ j → j < 16 → Z.getD (16 * i + j) 0 = 0
  prio : was = false → ∀ k ∈ S10.places n h, S10.prio X i ≤ S10.prio X k
theorem Good.opened {n : Nat} {X : List Int} (hg : Good n X) {h : Nat} (hh : h < 4294967296) : Opened n X (S10.openX (n : Int) X h) h (S10.openN (n : Int) X h) (S10.mark h) (S10.findB (n : Int) X h) := by
  have hlt := hg.openN_lt h
  have hl := hg.len
  have hl2 := (hg.openX h hh).len
  have ew : S10.findB (n : Int) X h = (S10.find n X h).isSome := by
    unfold S10.findB
    rw [if_pos hg.check, Int.toNat_natCast]
  rw [ew]
  refine ⟨hl2.trans hl.symm, by omega, fun k hk hc => ?_, hg.openX_mark h, fun hw j hj1 hj2 => ?_, fun hw k hk => ?_⟩
  · cases hf : S10.find n X h with
    | some q => rw [hg.openX_eq h, hf]; rfl
    | none =>
      rw [hf] at hc
      have hki : k ≠ S10.openN (n : Int) X h := by rcases hc with hc | hc; · cases hc
                                                   · exact hc
      exact slotB_ext hk (by omega) (fun j hj => (hg.openX_out h (16 * k + j) (by omega)).symm)
  · cases hf : S10.find n X h with
    | some q => rw [hf] at hw; cases hw
    | none =>
      rw [hg.openX_eq h, hf]
      simp only [Option.isSome_none, Bool.false_eq_true, if_false]
      rw [fresh_getD _ (by omega), if_neg (by omega), if_pos (by omega)]
  · cases hf : S10.find n X h with
    | some q => rw [hf] at hw; cases hw
    | none => exact S10.least_min (hg.openN_least h hf) k hk

set_option maxRecDepth 100000 in
set_option maxHeartbeats 1000000 in
theorem slotsReplaces_any (b : Nat) (hb : b < 256) (l : List Stp) (hok : ∀ s ∈ l, s.ok) (hlen : l.length ≤ 9223372036854775807) (h : Nat) (hh : h < 4294967296) (a : Option Addr) (cap : Nat) (w : World) (hrd : Rd w a (Stps l)) :
    Calls Try.prog 10 #[.int .u8 (b : Int), .slice a l.length cap, .int .u32 (h : Int)] w fun e w' => e = .returned (.bool true) ∧ Below w.heap.size w w' := by
  have HA := Lib.hid awake10_any
  by_cases hfew : 30 < l.length
  · go_enter Try.func10, Try.ntmps10
    go_wp2_with fail
    refine (HA.out _).mono ?_
    rintro e w1 ⟨rfl, hb1⟩
    go_wp2
    go_returns
    exact ⟨rfl, hb1⟩
  · obtain ⟨n, hn⟩ : ∃ n, n = b % 6 := ⟨_, rfl⟩
    have hn6 : n < 6 := by omega
    have HBh := Lib.hid fun W h => behind10_any b n hb hn l hok hlen a cap W h
    have hg := Good.runs (n := n) (by omega) hok
    obtain ⟨X, hX⟩ : ∃ X, S10.runs n l = X := ⟨_, rfl⟩
    rw [hX] at HBh hg
    clear hX hn
    have HF := Lib.hid fun a' cap' W hW => Find10_any (n : Int) X h hh a' cap' W hW
    have HO := Lib.hid fun a' cap' W hW => open10_o (n : Int) X h hh a' cap' W hW
    rw [hg.openB, hg.check] at HO
    have hg2 := hg.openX h hh
    have HC := Lib.hid fun a' cap' W (hW : Tab (S10.openX (n : Int) X h) a' cap' W) => check10_any (n : Int) (S10.openX (n : Int) X h) hW.ok a' cap' hW.cap W hW.rd
    rw [hg2.check] at HC
    have hop := hg.opened hh
    have HPl := Lib.hid fun W => rplaces10_any n h hg.le hh W
    have hplt : ∀ k ∈ S10.places n h, 16 * k + 16 ≤ X.length := fun k hk => by have := S10.mem_places hk; have := hg.len; omega
    have hl := hg.len
    have hps := pow_small hg.le
    have hpp := Nat.two_pow_pos n
    have emk : (h : Int) / 16777216 = (S10.mark h : Int) := by unfold S10.mark; omega
    have hmk := S10.mark_lt hh
    have hp3 : (S10.places n h).length ≤ 3 := S10.plc_len n h 3
    obtain ⟨fn, hfn⟩ : ∃ fn, S10.findN (n : Int) X h = fn := ⟨_, rfl⟩
    obtain ⟨was, hwas⟩ : ∃ fb, S10.findB (n : Int) X h = fb := ⟨_, rfl⟩
    obtain ⟨i, hi⟩ : ∃ i, S10.openN (n : Int) X h = i := ⟨_, rfl⟩
    obtain ⟨Z, hZ⟩ : ∃ Z, S10.openX (n : Int) X h = Z := ⟨_, rfl⟩
    obtain ⟨mk, hmkk⟩ : ∃ mk, S10.mark h = mk := ⟨_, rfl⟩
    obtain ⟨pl, hpl⟩ : ∃ pl, S10.places n h = pl := ⟨_, rfl⟩
    obtain ⟨m, hm⟩ : ∃ m, 2 ^ n = m := ⟨_, rfl⟩
    rw [hfn, hwas] at HF
    rw [hi, hZ] at HO
    rw [hZ] at HC
    have hpr := hop.prio
    rw [hpl, hi, hwas] at hpr
    rw [hi, hZ, hmkk, hwas] at hop
    rw [hpl] at HPl hplt hp3
    rw [hmkk] at emk hmk
    rw [hm] at hl hps hpp
    have Hop := Lib.hid hop
    have Hpr := Lib.hid hpr
    have Hplt := Lib.hid hplt
    have Hl := Lib.hid hl
    have HXl := Lib.hid (show 16 ≤ X.length ∧ X.length ≤ 1048576 by omega)
    have emk2 : (mk : Int) % 256 = (mk : Int) := by omega
    have e1 : (X.length : Int) / 16 = (m : Int) := by omega
    unfold tabV at *
    clear hg hg2 hop hpr hplt hl hfn hwas hi hZ hmkk hpl hm
    go_enter Try.func10, Try.ntmps10
    go_wp2_with fail
    refine (HBh.out _ hrd).mono ?_
    rintro e w1 ⟨a1, c1, rfl, hT1, hb1⟩
    have hB1 := hb1
    obtain ⟨w2, hw2⟩ : ∃ w2, w1.alloc (Obj.cells #[.int .i64 (n : Int), .slice a1 X.length c1] 26) = w2 := ⟨_, rfl⟩
    have hb2 : Below w1.heap.size w1 w2 := by rw [← hw2]; exact (Below.refl _ w1).alloc (Nat.le_refl _) _
    have A2 : Blk w2 w1.heap.size [.int .i64 (n : Int), .slice a1 X.length c1] 26 := by rw [← hw2]; exact Blk.new w1 _ _
    have hB2 := below_trans hB1 hb2
    have T2 := hT1.step hb2
    have k0 := A2.cell 0
    have k1 := A2.cell 1
    simp only [List.getElem?_cons_zero, List.getElem?_cons_succ] at k0 k1
    go_wp2_with fail
    refine (HF.out _ _ _ T2).mono ?_
    rintro e w3 ⟨rfl, hb3⟩
    have hB3 := below_trans hB2 hb3
    have A3 := A2.step hb3
    have T3 := T2.step hb3
    have k2 := A3.cell 0
    have k3 := A3.cell 1
    simp only [List.getElem?_cons_zero, List.getElem?_cons_succ] at k2 k3
    go_wp2_with fail
    refine (HO.out _ _ _ T3).mono ?_
    rintro e w4 ⟨a4, c4, rfl, hT4, _, hb4⟩
    have hB4 := below_trans hB3 hb4
    have A4 := A3.step hb4
    obtain ⟨w5, hw5⟩ : ∃ w5, w4.alloc (Obj.cells #[.int .i64 (n : Int), .slice a4 Z.length c4] 26) = w5 := ⟨_, rfl⟩
    have hb5 : Below w4.heap.size w4 w5 := by rw [← hw5]; exact (Below.refl _ w4).alloc (Nat.le_refl _) _
    have D5 : Blk w5 w4.heap.size [.int .i64 (n : Int), .slice a4 Z.length c4] 26 := by rw [← hw5]; exact Blk.new w4 _ _
    have hB5 := below_trans hB4 hb5
    have A5 := A4.step hb5
    have T5 := hT4.step hb5
    have S5 := (T3.step hb4).step hb5
    have k4 := D5.cell 0
    have k5 := D5.cell 1
    have k6 := A5.cell 0
    have k7 := A5.cell 1
    simp only [List.getElem?_cons_zero, List.getElem?_cons_succ] at k4 k5 k6 k7
    have eZ : ((Z.length : Int) != (X.length : Int)) = false := by rw [Hop.out.len]; simp
    go_wp2_with fail
    refine (HC.out _ _ _ T5).mono ?_
    rintro e w6 ⟨rfl, hb6⟩
    have hB6 := below_trans hB5 hb6
    have A6 := A5.step hb6
    have D6 := D5.step hb6
    have T6 := T5.step hb6
    have S6 := S5.step hb6
    have k8 := A6.cell 0
    have k9 := A6.cell 1
    simp only [List.getElem?_cons_zero, List.getElem?_cons_succ] at k8 k9
    obtain ⟨hX16, hXl⟩ := HXl.out
    obtain ⟨g1, o1, rfl, _⟩ := S6.rd (fun e => by have h1 := congrArg List.length e; rw [Bts_length] at h1; simp only [List.length_nil] at h1; omega)
    obtain ⟨g2, o2, rfl, _⟩ := T6.rd (fun e => by have h1 := congrArg List.length e; rw [Bts_length, Hop.out.len] at h1; simp only [List.length_nil] at h1; omega)
    clear k0 k1 k2 k3 k4 k5 k6 k7 A2 A3 A4 A5 D5 T2 T3 T5 S5 hT1 hT4
    go_wp2
    have HX0 := Lib.hid (show X ≠ [] by intro e; rw [e] at hX16; simp at hX16)
    have HZ0 := Lib.hid (show Z ≠ [] by intro e; have := Hop.out.len; rw [e] at this; simp at this; omega)
    have HL1 := Lib.hid fun k (hk : 16 * k + 16 ≤ X.length) W => lslot10_any (n : Int) X k g1 o1 c1 hk hXl S6.cap W
    have HL2 := Lib.hid fun k (hk : 16 * k + 16 ≤ X.length) W => lslot10_any (n : Int) Z k g2 o2 c4 (by rw [Hop.out.len]; exact hk) (by rw [Hop.out.len]; exact hXl) T6.cap W
    unfold tabV at *
    go_loopw [65] (fun t wr => ∃ k : Nat, k ≤ m ∧ t = .int .i64 (k : Int) ∧ Below w6.heap.size w6 wr)
      (fun t _ => m - (intOf t).toNat)
    case atStart => exact ⟨0, by omega, rfl, Below.refl _ _⟩
    case round =>
      obtain ⟨k, hk, rfl, hB⟩ := hrel
      have hBr := below_trans hB6 hB
      by_cases hlt : k < m
      · have A7 := A6.step hB
        have D7 := D6.step hB
        have hk16 : 16 * k + 16 ≤ X.length := by have := Hl.out; omega
        have hkZ : 16 * k + 16 ≤ Z.length := by rw [Hop.out.len]; exact hk16
        have hC3 : Cells wr [(⟨w1.heap.size, 0, none⟩, .int .i64 (n : Int)), (⟨w1.heap.size, 1, none⟩, .slice (some ⟨g1, o1, none⟩) X.length c1), (⟨w4.heap.size, 0, none⟩, .int .i64 (n : Int)), (⟨w4.heap.size, 1, none⟩, .slice (some ⟨g2, o2, none⟩) Z.length c4)] := ⟨A7.cell 0, A7.cell 1, D7.cell 0, D7.cell 1, trivial⟩
        clear A7 D7
        go_wp2
        refine wp_region_seq 16 0 [(true, [true, true, false, true, true]), (false, [false, false, true]), (false, [false, false, false, false, false, true]), (false, [false, false, false, false, false, false, true]), (true, [false, false, false, false, false, false, false, true, true, true, true, true, true, true, true, true])] _ _ (Keeps wr [(⟨w1.heap.size, 0, none⟩, .int .i64 (n : Int)), (⟨w1.heap.size, 1, none⟩, .slice (some ⟨g1, o1, none⟩) X.length c1), (⟨w4.heap.size, 0, none⟩, .int .i64 (n : Int)), (⟨w4.heap.size, 1, none⟩, .slice (some ⟨g2, o2, none⟩) Z.length c4)]) (by kernel_rfl) (List.take_append_drop 16 _).symm (by kernel_rfl) (by kernel_rfl) (by kernel_rfl) (by kernel_rfl) (Keeps.start hC3) (fun Y Q4 F4 hY hF => ?_)
        simp only [phased, List.flatMap_cons, List.flatMap_nil, List.take_succ_cons, List.take_zero, List.drop_succ_cons, List.drop_zero, sel_true, sel_false, sel_nil, List.map_cons, List.map_nil, List.cons_append, List.nil_append, List.append_nil]
        repeat
          apply wpSeq_read (by first | rfl | (rw [hY]; rfl))
          · intro w2 hS2
            (try simp only [Keeps, Cells] at hS2)
            (try simp only [HasC, Cells] at hS2)
            go_simp
            with_reducible rfl
          simp only [Act.put, List.setIfInBounds_toArray, List.set_cons_zero, List.set_cons_succ]
        apply wpSeq_call (by first | rfl | (rw [hY]; rfl))
        · go_simp
          with_reducible exact ⟨rfl, rfl⟩
        refine (HL1.out k hk16 _).mono ?_
        rintro e w7 ⟨c7, rfl, _, hb7⟩
        have hk7 := (Keeps.start hC3).step hb7
        refine ⟨_, rfl, hk7, ?_⟩
        simp only [Act.put, List.setIfInBounds_toArray, List.set_cons_zero, List.set_cons_succ]
        apply wpSeq_call (by first | rfl | (rw [hY]; rfl))
        · go_simp
          with_reducible exact ⟨rfl, rfl⟩
        refine (HL2.out k hk16 _).mono ?_
        rintro e w8 ⟨c8, rfl, _, hb8⟩
        have hk8 := hk7.step hb8
        refine ⟨_, rfl, hk8, ?_⟩
        simp only [Act.put, List.setIfInBounds_toArray, List.set_cons_zero, List.set_cons_succ]
        have hB8 := below_trans hB hk8.1
        have h1 := conv10n (slotB_len hk16) (some ⟨g1, o1 + 16 * k, none⟩) c7 w8 ((S6.step hB8).slotRd HX0.out k)
        have h2 := conv10n (slotB_len hkZ) (some ⟨g2, o2 + 16 * k, none⟩) c8 w8 ((T6.step hB8).slotRd HZ0.out k)
        apply wpSeq_call (by first | rfl | (rw [hY]; rfl))
        · go_simp
          with_reducible exact ⟨rfl, rfl⟩
        refine (Try.bytes_Equal _ _ _ _ _ h1 h2).mono ?_
        rintro e w9 ⟨rfl, rfl⟩
        refine ⟨_, rfl, hk8, ?_⟩
        simp only [Act.put, List.setIfInBounds_toArray, List.set_cons_zero, List.set_cons_succ]
        have hsame := Hop.out.same k hk16
        obtain ⟨E, hE⟩ : ∃ E, (Lib.bytesOf (S10.slotB X k) == Lib.bytesOf (S10.slotB Z k)) = E := ⟨_, rfl⟩
        rw [hE]
        cases E with
        | true =>
          repeat
            apply wpSeq_read (by first | rfl | (rw [hY]; rfl))
            · intro w2 hS2
              (try simp only [Keeps, Cells] at hS2)
              (try simp only [HasC, Cells] at hS2)
              go_simp
              with_reducible rfl
            simp only [Act.put, List.setIfInBounds_toArray, List.set_cons_zero, List.set_cons_succ]
          repeat
            first
              | (apply wpSeq_unread (by rw [hY]; rfl)
                 simp only [Act.put, List.setIfInBounds_toArray, List.set_cons_zero, List.set_cons_succ])
              | (refine wpSeq_skip (by rw [hY]; rfl) (hk8) ?_
                 simp only [Act.put, List.setIfInBounds_toArray, List.set_cons_zero, List.set_cons_succ])
          repeat
            apply wpSeq_read (by first | rfl | (rw [hY]; rfl))
            · intro w2 hS2
              (try simp only [Keeps, Cells] at hS2)
              (try simp only [HasC, Cells] at hS2)
              go_simp
              with_reducible rfl
            simp only [Act.put, List.setIfInBounds_toArray, List.set_cons_zero, List.set_cons_succ]
          repeat
            first
              | (apply wpSeq_unread (by rw [hY]; rfl)
                 simp only [Act.put, List.setIfInBounds_toArray, List.set_cons_zero, List.set_cons_succ])
              | (refine wpSeq_skip (by rw [hY]; rfl) (hk8) ?_
                 simp only [Act.put, List.setIfInBounds_toArray, List.set_cons_zero, List.set_cons_succ])
          repeat
            apply wpSeq_read (by first | rfl | (rw [hY]; rfl))
            · intro w2 hS2
              (try simp only [Keeps, Cells] at hS2)
              (try simp only [HasC, Cells] at hS2)
              go_simp
              with_reducible rfl
            simp only [Act.put, List.setIfInBounds_toArray, List.set_cons_zero, List.set_cons_succ]
          refine wpSeq_done (hF.out _ _ (fun K hK => ?_))
          clear hF hY
          refine OnlyK.mk (hK.out _ _ ?_)
          clear hK h1 h2 hsame hE
          go_wp2
          go_roundw
          case rel => exact ⟨k + 1, by omega, by simp, hB8⟩
          case measure => simp [intOf]; omega
        | false =>
          have hno : was = false ∧ k = i := by
            refine ⟨?_, ?_⟩
            · cases hw : was with
              | false => rfl
              | true => rw [hsame (.inl hw)] at hE; simp at hE
            · by_cases e : k = i
              · exact e
              · rw [hsame (.inr e)] at hE; simp at hE
          obtain ⟨hwf, hki⟩ := hno
          have eki : ((k : Int) != (i : Int)) = false := by simp only [bne_eq_false_iff_eq]; omega
          clear hsame hE h1 h2
          subst hwf
          repeat
            apply wpSeq_read (by first | rfl | (rw [hY]; rfl))
            · intro w2 hS2
              (try simp only [Keeps, Cells] at hS2)
              (try simp only [HasC, Cells] at hS2)
              go_simp
              with_reducible rfl
            simp only [Act.put, List.setIfInBounds_toArray, List.set_cons_zero, List.set_cons_succ]
          refine wpSeq_done (hF.out _ _ (fun K hK => ?_))
          clear hF hY
          refine OnlyK.mk (hK.out _ _ ?_)
          clear hK
          clear hki
          go_wp2
          go_roundw
          case rel => exact ⟨k + 1, by omega, by simp, hB8⟩
          case measure => simp [intOf]; omega
      · obtain rfl : k = m := by omega
        have hBw := hBr
        have A7 := A6.step hB
        have D7 := D6.step hB
        have T7 := T6.step hB
        have S7 := S6.step hB
        have q0 := D7.cell 0
        have q1 := D7.cell 1
        simp only [List.getElem?_cons_zero, List.getElem?_cons_succ] at q0 q1
        have hilt := Hop.out.lt
        go_wp2_with fail
        refine (HL2.out i hilt _).mono ?_
        rintro e w7 ⟨c7, rfl, hc7, hb7⟩
        have hB7 := below_trans hBr hb7
        have A8 := A7.step hb7
        have D8 := D7.step hb7
        have T8 := T7.step hb7
        have S8 := S7.step hb7
        obtain ⟨g2', o2', eg2, hcz⟩ := T8.rd (fun e => HZ0.out (by have h1 := congrArg List.length e; rw [Bts_length] at h1; exact List.length_eq_zero_iff.1 (by simpa using h1)))
        cases eg2
        have hzl := Hop.out.len
        have b0 := hcz (16 * i) _ (Bts_at (by omega))
        rw [Hop.out.mark] at b0
        clear hzl
        cases was with
        | true =>
          go_wp2_with fail
          refine (HA.out _).mono ?_
          rintro e w9 ⟨rfl, hb9⟩
          have hB9 := below_trans hB7 hb9
          go_wp2
          go_returns
          exact ⟨rfl, hB9⟩
        | false =>
          have hz : ∀ j, j < 15 → w7.cell? ⟨g2, o2 + 16 * i + 1 + j, none⟩ = some (.int .u8 0) := fun j hj => by
            have h1 := hcz (16 * i + (1 + j)) _ (Bts_at (by have := Hop.out.len; omega))
            rw [Hop.out.zero rfl (1 + j) (by omega) (by omega)] at h1
            rw [show o2 + 16 * i + 1 + j = o2 + (16 * i + (1 + j)) by omega]
            exact h1
          have Hz := Lib.hid hz
          clear hcz hz
          go_wp2
          go_loopw [105] (fun t wr => ∃ q : Nat, q ≤ 15 ∧ t = .int .i64 (q : Int) ∧ Below w7.heap.size w7 wr)
            (fun t _ => 15 - (intOf t).toNat)
          case atStart => exact ⟨0, by omega, rfl, Below.refl _ _⟩
          case round =>
            obtain ⟨q, hq, rfl, hBq⟩ := hrel
            by_cases hlt2 : q < 15
            · have hz := (hBq.cell (block_lt_of_cell (Hz.out q hlt2))).trans (Hz.out q hlt2)
              go_wp2
              go_roundw
              case rel => exact ⟨q + 1, by omega, by simp, hBq⟩
              case measure => simp [intOf]; omega
            · obtain rfl : q = 15 := by omega
              have A9 := A8.step hBq
              have S9 := S8.step hBq
              have hB9 := below_trans hB7 hBq
              have q2 := A9.cell 0
              have q3 := A9.cell 1
              simp only [List.getElem?_cons_zero, List.getElem?_cons_succ] at q2 q3
              go_wp2_with fail
              refine (HPl.out _).mono ?_
              rintro e w10 ⟨la, lc, rfl, hown, hb10⟩
              have hB10 := below_trans hB9 hb10
              have A10 := A9.step hb10
              have S10' := S9.step hb10
              have Hrd := Lib.hid (Rd.of_owns hown)
              have HP := Lib.hid fun v W => priority09_any v W
              clear hown
              go_wp2
              go_loopw [117] (fun t wr => ∃ q : Nat, q ≤ pl.length ∧ t = .int .i64 (q : Int) ∧ Below w10.heap.size w10 wr)
                (fun t _ => pl.length - (intOf t).toNat)
              case atStart => exact ⟨0, by omega, rfl, Below.refl _ _⟩
              case round =>
                obtain ⟨q, hq, rfl, hBq2⟩ := hrel
                have hBr3 := below_trans hB10 hBq2
                by_cases hlt3 : q < pl.length
                · obtain ⟨lb, lo, rfl, hlc⟩ := Hrd.out.step hBq2 (fun e => by rw [← List.length_eq_zero_iff, Nts_length] at e; omega)
                  have hx := hlc q _ (Nts_at hlt3)
                  have hxm : pl.getD q 0 ∈ pl := by rw [getD_getE hlt3]; exact List.getElem_mem hlt3
                  have hxl := Hplt.out _ hxm
                  have hxp := Hpr.out (by simp) _ hxm
                  obtain ⟨x, hxx⟩ : ∃ x, pl.getD q 0 = x := ⟨_, rfl⟩
                  rw [hxx] at hx hxl hxp
                  unfold S10.prio at hxp
                  have A11 := A10.step hBq2
                  obtain ⟨g1', o1', eg1, hcx⟩ := (S10'.step hBq2).rd (fun e => HX0.out (by have h1 := congrArg List.length e; rw [Bts_length] at h1; exact List.length_eq_zero_iff.1 (by simpa using h1)))
                  cases eg1
                  have bx := hcx (16 * x + 1) _ (Bts_at (by omega))
                  have bi := hcx (16 * i + 1) _ (Bts_at (by omega))
                  rw [← Nat.add_assoc] at bx bi
                  have hv1 := (S6.ok)
                  have hvr : ∀ j, j < X.length → 0 ≤ X.getD j 0 ∧ X.getD j 0 < 256 := fun j hj => by
                    rw [List.getD_eq_getElem?_getD, List.getElem?_eq_getElem hj]; exact S6.ok _ (List.getElem_mem hj)
                  have rx := hvr (16 * x + 1) (by omega)
                  have ri := hvr (16 * i + 1) (by omega)
                  obtain ⟨v, hv⟩ : ∃ v, X.getD (16 * x + 1) 0 = v := ⟨_, rfl⟩
                  obtain ⟨u, hu⟩ : ∃ u, X.getD (16 * i + 1) 0 = u := ⟨_, rfl⟩
                  rw [hv] at bx rx hxp
                  rw [hu] at bi ri hxp
                  have P1 := Lib.hid fun W => HP.out v W
                  have P2 := Lib.hid fun W => HP.out u W
                  obtain ⟨pv, hpv⟩ : ∃ pv, (if S09.found v then S09.hz v + S09.ho v else -1) = pv := ⟨_, rfl⟩
                  obtain ⟨pu, hpu⟩ : ∃ pu, (if S09.found u then S09.hz u + S09.ho u else -1) = pu := ⟨_, rfl⟩
                  rw [hpv] at P1 hxp
                  rw [hpu] at P2 hxp
                  have ev : IntKind.i64.wrap v = v := i64_small (by omega) (by omega)
                  have eu : IntKind.i64.wrap u = u := i64_small (by omega) (by omega)
                  have elt : decide (pv < pu) = false := by simp; omega
                  have hC3 : Cells wr [(⟨w1.heap.size, 0, none⟩, .int .i64 (n : Int)), (⟨w1.heap.size, 1, none⟩, .slice (some ⟨g1, o1, none⟩) X.length c1), (⟨g1, o1 + 16 * x + 1, none⟩, .int .u8 v), (⟨g1, o1 + 16 * i + 1, none⟩, .int .u8 u)] := ⟨A11.cell 0, A11.cell 1, bx, bi, trivial⟩
                  clear hcx hvr hv hu hpv hpu hxp hv1 hlc A11 hxx
                  go_wp2
                  refine wp_region_seq 15 0 [(true, [true, true, false, false, false, false, false, true, true]), (false, [false, false, true]), (true, [false, false, false, true, true, true]), (false, [false, false, false, false, false, false, true]), (false, [false, false, false, false, false, false, false, false, false, true]), (true, [false, false, false, false, false, false, false, false, false, false, true, true, true]), (false, [false, false, false, false, false, false, false, false, false, false, false, false, false, true]), (true, [false, false, false, false, false, false, false, false, false, false, false, false, false, false, true])] _ _ (Keeps wr [(⟨w1.heap.size, 0, none⟩, .int .i64 (n : Int)), (⟨w1.heap.size, 1, none⟩, .slice (some ⟨g1, o1, none⟩) X.length c1), (⟨g1, o1 + 16 * x + 1, none⟩, .int .u8 v), (⟨g1, o1 + 16 * i + 1, none⟩, .int .u8 u)]) (by kernel_rfl) (List.take_append_drop 15 _).symm (by kernel_rfl) (by kernel_rfl) (by kernel_rfl) (by kernel_rfl) (Keeps.start hC3) (fun Y Q4 F4 hY hF => ?_)
                  simp only [phased, List.flatMap_cons, List.flatMap_nil, List.take_succ_cons, List.take_zero, List.drop_succ_cons, List.drop_zero, sel_true, sel_false, sel_nil, List.map_cons, List.map_nil, List.cons_append, List.nil_append, List.append_nil]
                  repeat
                    apply wpSeq_read (by first | rfl | (rw [hY]; rfl))
                    · intro w2 hS2
                      (try simp only [Keeps, Cells] at hS2)
                      (try simp only [HasC, Cells] at hS2)
                      go_simp
                      with_reducible rfl
                    simp only [Act.put, List.setIfInBounds_toArray, List.set_cons_zero, List.set_cons_succ]
                  apply wpSeq_call (by first | rfl | (rw [hY]; rfl))
                  · go_simp
                    with_reducible exact ⟨rfl, rfl⟩
                  refine (HL1.out x hxl _).mono ?_
                  rintro e w11 ⟨c11, rfl, hc11, hb11⟩
                  have hk11 := (Keeps.start hC3).step hb11
                  refine ⟨_, rfl, hk11, ?_⟩
                  simp only [Act.put, List.setIfInBounds_toArray, List.set_cons_zero, List.set_cons_succ]
                  repeat
                    apply wpSeq_read (by first | rfl | (rw [hY]; rfl))
                    · intro w2 hS2
                      (try simp only [Keeps, Cells] at hS2)
                      (try simp only [HasC, Cells] at hS2)
                      go_simp
                      with_reducible rfl
                    simp only [Act.put, List.setIfInBounds_toArray, List.set_cons_zero, List.set_cons_succ]
                  apply wpSeq_call (by first | rfl | (rw [hY]; rfl))
                  · go_simp
                    with_reducible exact ⟨rfl, rfl⟩
                  refine (P1.out _).mono ?_
                  rintro e w12 ⟨rfl, hb12⟩
                  have hk12 := hk11.step hb12
                  refine ⟨_, rfl, hk12, ?_⟩
                  simp only [Act.put, List.setIfInBounds_toArray, List.set_cons_zero, List.set_cons_succ]
                  apply wpSeq_call (by first | rfl | (rw [hY]; rfl))
                  · go_simp
                    with_reducible exact ⟨rfl, rfl⟩
                  refine (HL1.out i hilt _).mono ?_
                  rintro e w13 ⟨c13, rfl, hc13, hb13⟩
                  have hk13 := hk12.step hb13
                  refine ⟨_, rfl, hk13, ?_⟩
                  simp only [Act.put, List.setIfInBounds_toArray, List.set_cons_zero, List.set_cons_succ]
                  repeat
                    apply wpSeq_read (by first | rfl | (rw [hY]; rfl))
                    · intro w2 hS2
                      (try simp only [Keeps, Cells] at hS2)
                      (try simp only [HasC, Cells] at hS2)
                      go_simp
                      with_reducible rfl
                    simp only [Act.put, List.setIfInBounds_toArray, List.set_cons_zero, List.set_cons_succ]
                  apply wpSeq_call (by first | rfl | (rw [hY]; rfl))
                  · go_simp
                    with_reducible exact ⟨rfl, rfl⟩
                  refine (P2.out _).mono ?_
                  rintro e w14 ⟨rfl, hb14⟩
                  have hk14 := hk13.step hb14
                  refine ⟨_, rfl, hk14, ?_⟩
                  simp only [Act.put, List.setIfInBounds_toArray, List.set_cons_zero, List.set_cons_succ]
                  repeat
                    apply wpSeq_read (by first | rfl | (rw [hY]; rfl))
                    · intro w2 hS2
                      (try simp only [Keeps, Cells] at hS2)
                      (try simp only [HasC, Cells] at hS2)
                      go_simp
                      with_reducible rfl
                    simp only [Act.put, List.setIfInBounds_toArray, List.set_cons_zero, List.set_cons_succ]
                  refine wpSeq_done (hF.out _ _ (fun K hK => ?_))
                  clear hF hY
                  refine OnlyK.mk (hK.out _ _ ?_)
                  clear hK
                  have hB14 := below_trans hBq2 hk14.1
                  go_wp2
                  go_roundw
                  case rel => exact ⟨q + 1, by omega, by simp, hB14⟩
                  case measure => simp [intOf]; omega
                · obtain rfl : q = pl.length := by omega
                  go_wp2_with fail
                  refine (HA.out _).mono ?_
                  rintro e w12 ⟨rfl, hb12⟩
                  have hB12 := below_trans hBr3 hb12
                  go_wp2
                  go_returns
                  exact ⟨rfl, hB12⟩
end Go.Proofs.Ytgbjckjfjoiilaa
