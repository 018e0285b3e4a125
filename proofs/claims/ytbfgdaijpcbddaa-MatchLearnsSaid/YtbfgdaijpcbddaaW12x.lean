/- The reference's Repetition and Longest (layer 12). No condition. -/
import Derived.Test.YtbfgdaijpcbddaaW12w
set_option linter.unusedSimpArgs false
set_option linter.unusedVariables false
set_option linter.unusedSectionVars false
namespace Go.Proofs.Ytbfgdaijpcbddaa
open Go.RowKit

set_option maxRecDepth 100000 in
set_option maxHeartbeats 2000000 in
theorem rrepetition12_any (g o cap : Nat) (xs : List Int) (p : Nat) (hp : p ≤ xs.length) (hlen : xs.length ≤ 1000000) (w : World) (hrd : Rd w (some ⟨g, o, none⟩) (Bts xs)) :
    Calls Try.prog 54 #[.slice (some ⟨g, o, none⟩) xs.length cap, .int .i64 (p : Int)] w fun e w' => e = .returned (.int .i64 (S12.rep xs p : Int)) ∧ Below w.heap.size w w' := by
  obtain ⟨R, hR⟩ : ∃ R, S12.rep xs p = R := ⟨_, rfl⟩
  have HR := Lib.hid fun (k : Nat) (h1 : k ≤ min 255 p) (h2 : ∀ i, i < k → S12.eqAt xs p i = true) (h3 : k = min 255 p ∨ S12.eqAt xs p k = false) => (hR.symm.trans (S12.rep_of h1 h2 h3) : R = k)
  rw [hR]
  have Hrd := Lib.hid hrd
  clear hR hrd
  go_enter Try.func54, Try.ntmps54
  go_wp2_with fail
  go_loopw [5] (fun n wr => ∃ k : Nat, k ≤ min 255 p ∧ n = .int .i64 (k : Int) ∧ (∀ i, i < k → S12.eqAt xs p i = true) ∧ Below w.heap.size w wr) (fun n _ => 255 - (intOf n).toNat)
  case atStart => exact ⟨0, by omega, rfl, fun i h => by omega, Below.refl _ _⟩
  case round =>
    obtain ⟨k, hk, rfl, heq, hB⟩ := hrel
    have Heq := Lib.hid heq
    clear heq
    by_cases c1 : k < 255
    · by_cases c2 : k < p
      · obtain ⟨g', o', e, hcs⟩ := Bts_at (Hrd.out.step hB) (i := p - 1 - k) (by omega)
        cases e
        obtain ⟨i, hi⟩ : ∃ i, p - 1 - k = i := ⟨_, rfl⟩
        obtain ⟨j, hj⟩ : ∃ j, xs.length - 1 - k = j := ⟨_, rfl⟩
        have y1 := hcs i (by omega)
        have y2 := hcs j (by omega)
        have hdef : S12.eqAt xs p k = (xs.getD i 0 == xs.getD j 0) := by unfold S12.eqAt; rw [hi, hj]
        obtain ⟨u, hu⟩ : ∃ u, xs.getD i 0 = u := ⟨_, rfl⟩
        obtain ⟨v, hv⟩ : ∃ v, xs.getD j 0 = v := ⟨_, rfl⟩
        rw [hu, hv] at hdef
        rw [hu] at y1
        rw [hv] at y2
        have q1 : IntKind.i64.wrap (IntKind.i64.wrap ((p : Int) - 1) - (k : Int)) = (i : Int) := by rw [IntWalk.i64_in ((p : Int) - 1) (by omega), IntWalk.i64_in _ (by omega)]; omega
        have q2 : IntKind.i64.wrap (IntKind.i64.wrap ((xs.length : Int) - 1) - (k : Int)) = (j : Int) := by rw [IntWalk.i64_in ((xs.length : Int) - 1) (by omega), IntWalk.i64_in _ (by omega)]; omega
        have hil : i < xs.length := by omega
        have hjl : j < xs.length := by omega
        have hC : Cells wr [(⟨g, o + i, none⟩, .int .u8 u), (⟨g, o + j, none⟩, .int .u8 v)] := ⟨y1, y2, trivial⟩
        have Hdef := Lib.hid hdef
        have Hk := Lib.hid hk
        clear hcs hdef hu hv hi hj hk
        have d1 : decide ((k : Int) < 255) = true := decide_eq_true (by omega)
        have d2 : decide ((k : Int) < (p : Int)) = true := decide_eq_true (by omega)
        cases huv : (u == v) with
        | true =>
          rw [huv] at Hdef
          go_wp2_with fail
          refine wp_region_seq 25 0 [(true, [true, true, true, true, true, true, true, true, true, true, true, true, true, true, true, true, true, true, true, true, true, true, true, true, true])] _ _ (Keeps wr [(⟨g, o + i, none⟩, .int .u8 u), (⟨g, o + j, none⟩, .int .u8 v)]) (by kernel_rfl) (List.take_append_drop 25 _).symm (by kernel_rfl) (by kernel_rfl) (by kernel_rfl) (by kernel_rfl) (Keeps.start hC) (fun Y Q4 F4 hY hF => ?_)
          simp only [phased, List.flatMap_cons, List.flatMap_nil, List.take_succ_cons, List.take_zero, List.drop_succ_cons, List.drop_zero, sel_true, sel_false, sel_nil, List.map_cons, List.map_nil, List.cons_append, List.nil_append, List.append_nil]
          repeat
            apply wpSeq_read (by first | rfl | (rw [hY]; rfl))
            · intro w2 hS2
              (try simp only [Keeps, Cells] at hS2)
              (try simp only [HasC, Cells] at hS2)
              go_simp
              with_reducible rfl
            simp only [Act.put, List.setIfInBounds_toArray, List.set_cons_zero, List.set_cons_succ]
          repeat
            first
              | (apply wpSeq_unread (by rw [hY]; rfl)
                 simp only [Act.put, List.setIfInBounds_toArray, List.set_cons_zero, List.set_cons_succ])
              | (apply wpSeq_read (by first | rfl | (rw [hY]; rfl))
                 · intro w2 hS2
                   (try simp only [Keeps, Cells] at hS2)
                   (try simp only [HasC, Cells] at hS2)
                   go_simp
                   with_reducible rfl
                 simp only [Act.put, List.setIfInBounds_toArray, List.set_cons_zero, List.set_cons_succ])
          refine wpSeq_done (hF.out _ _ (fun K hK => ?_))
          clear hF hY
          go_wp2_with fail
          refine OnlyK.mk (hK.out _ _ ?_)
          clear hK
          have hBd := below_trans hB (below_drew wr.heap.size wr)
          clear hC
          go_wp2_with fail
          go_roundw
          case rel => exact ⟨k + 1, by omega, by go_num, fun i hi => by rcases Nat.lt_succ_iff_lt_or_eq.1 hi with h | rfl; exact Heq.out i h; exact Hdef.out, hBd⟩
          case measure => simp [intOf]; omega
        | false =>
          rw [huv] at Hdef
          have hRk : R = k := HR.out k Hk.out Heq.out (.inr Hdef.out)
          go_wp2_with fail
          refine wp_region_seq 25 0 [(true, [true, true, true, true, true, true, true, true, true, true, true, true, true, true, true, true, true, true, true, true, true, true, true, true, true])] _ _ (Keeps wr [(⟨g, o + i, none⟩, .int .u8 u), (⟨g, o + j, none⟩, .int .u8 v)]) (by kernel_rfl) (List.take_append_drop 25 _).symm (by kernel_rfl) (by kernel_rfl) (by kernel_rfl) (by kernel_rfl) (Keeps.start hC) (fun Y Q4 F4 hY hF => ?_)
          simp only [phased, List.flatMap_cons, List.flatMap_nil, List.take_succ_cons, List.take_zero, List.drop_succ_cons, List.drop_zero, sel_true, sel_false, sel_nil, List.map_cons, List.map_nil, List.cons_append, List.nil_append, List.append_nil]
          repeat
            apply wpSeq_read (by first | rfl | (rw [hY]; rfl))
            · intro w2 hS2
              (try simp only [Keeps, Cells] at hS2)
              (try simp only [HasC, Cells] at hS2)
              go_simp
              with_reducible rfl
            simp only [Act.put, List.setIfInBounds_toArray, List.set_cons_zero, List.set_cons_succ]
          repeat
            first
              | (apply wpSeq_unread (by rw [hY]; rfl)
                 simp only [Act.put, List.setIfInBounds_toArray, List.set_cons_zero, List.set_cons_succ])
              | (apply wpSeq_read (by first | rfl | (rw [hY]; rfl))
                 · intro w2 hS2
                   (try simp only [Keeps, Cells] at hS2)
                   (try simp only [HasC, Cells] at hS2)
                   go_simp
                   with_reducible rfl
                 simp only [Act.put, List.setIfInBounds_toArray, List.set_cons_zero, List.set_cons_succ])
          refine wpSeq_done (hF.out _ _ (fun K hK => ?_))
          clear hF hY
          go_wp2_with fail
          refine OnlyK.mk (hK.out _ _ ?_)
          clear hK
          have hBd := below_trans hB (below_drew wr.heap.size wr)
          clear hC
          go_wp2_with fail
          go_returns
          exact ⟨by rw [hRk]; rfl, hBd⟩
      · have hRk : R = k := HR.out k hk Heq.out (.inl (by omega))
        have d1 : decide ((k : Int) < 255) = true := decide_eq_true (by omega)
        have d2 : decide ((k : Int) < (p : Int)) = false := decide_eq_false (by omega)
        have hC : Cells wr [] := trivial
        clear hk
        go_wp2_with fail
        refine wp_region_seq 25 0 [(true, [true, true, true, true, true, true, true, true, true, true, true, true, true, true, true, true, true, true, true, true, true, true, true, true, true])] _ _ (Keeps wr []) (by kernel_rfl) (List.take_append_drop 25 _).symm (by kernel_rfl) (by kernel_rfl) (by kernel_rfl) (by kernel_rfl) (Keeps.start hC) (fun Y Q4 F4 hY hF => ?_)
        simp only [phased, List.flatMap_cons, List.flatMap_nil, List.take_succ_cons, List.take_zero, List.drop_succ_cons, List.drop_zero, sel_true, sel_false, sel_nil, List.map_cons, List.map_nil, List.cons_append, List.nil_append, List.append_nil]
        repeat
          apply wpSeq_read (by first | rfl | (rw [hY]; rfl))
          · intro w2 hS2
            (try simp only [Keeps, Cells] at hS2)
            (try simp only [HasC, Cells] at hS2)
            go_simp
            with_reducible rfl
          simp only [Act.put, List.setIfInBounds_toArray, List.set_cons_zero, List.set_cons_succ]
        repeat
          first
            | (apply wpSeq_unread (by rw [hY]; rfl)
               simp only [Act.put, List.setIfInBounds_toArray, List.set_cons_zero, List.set_cons_succ])
            | (apply wpSeq_read (by first | rfl | (rw [hY]; rfl))
               · intro w2 hS2
                 (try simp only [Keeps, Cells] at hS2)
                 (try simp only [HasC, Cells] at hS2)
                 go_simp
                 with_reducible rfl
               simp only [Act.put, List.setIfInBounds_toArray, List.set_cons_zero, List.set_cons_succ])
        refine wpSeq_done (hF.out _ _ (fun K hK => ?_))
        clear hF hY
        go_wp2_with fail
        refine OnlyK.mk (hK.out _ _ ?_)
        clear hK
        have hBd := below_trans hB (below_drew wr.heap.size wr)
        clear hC
        go_wp2_with fail
        go_returns
        exact ⟨by rw [hRk]; rfl, hBd⟩
    · have hRk : R = k := HR.out k hk Heq.out (.inl (by omega))
      have d1 : decide ((k : Int) < 255) = false := decide_eq_false (by omega)
      have hC : Cells wr [] := trivial
      clear hk
      go_wp2_with fail
      refine wp_region_seq 25 0 [(true, [true, true, true, true, true, true, true, true, true, true, true, true, true, true, true, true, true, true, true, true, true, true, true, true, true])] _ _ (Keeps wr []) (by kernel_rfl) (List.take_append_drop 25 _).symm (by kernel_rfl) (by kernel_rfl) (by kernel_rfl) (by kernel_rfl) (Keeps.start hC) (fun Y Q4 F4 hY hF => ?_)
      simp only [phased, List.flatMap_cons, List.flatMap_nil, List.take_succ_cons, List.take_zero, List.drop_succ_cons, List.drop_zero, sel_true, sel_false, sel_nil, List.map_cons, List.map_nil, List.cons_append, List.nil_append, List.append_nil]
      repeat
        apply wpSeq_read (by first | rfl | (rw [hY]; rfl))
        · intro w2 hS2
          (try simp only [Keeps, Cells] at hS2)
          (try simp only [HasC, Cells] at hS2)
          go_simp
          with_reducible rfl
        simp only [Act.put, List.setIfInBounds_toArray, List.set_cons_zero, List.set_cons_succ]
      repeat
        first
          | (apply wpSeq_unread (by rw [hY]; rfl)
             simp only [Act.put, List.setIfInBounds_toArray, List.set_cons_zero, List.set_cons_succ])
          | (apply wpSeq_read (by first | rfl | (rw [hY]; rfl))
             · intro w2 hS2
               (try simp only [Keeps, Cells] at hS2)
               (try simp only [HasC, Cells] at hS2)
               go_simp
               with_reducible rfl
             simp only [Act.put, List.setIfInBounds_toArray, List.set_cons_zero, List.set_cons_succ])
      refine wpSeq_done (hF.out _ _ (fun K hK => ?_))
      clear hF hY
      go_wp2_with fail
      refine OnlyK.mk (hK.out _ _ ?_)
      clear hK
      have hBd := below_trans hB (below_drew wr.heap.size wr)
      clear hC
      go_wp2_with fail
      go_returns
      exact ⟨by rw [hRk]; rfl, hBd⟩

theorem S12.longTo_swap (b : List Int) (least : Int) (k : Nat) (h : 1 ≤ k) : S12.longTo b least (k + 1) = if (S12.longTo b least k).2 ≤ S12.rep b k ∧ least ≤ S12.rep b k then (k, S12.rep b k) else S12.longTo b least k := by
  rw [S12.longTo]; rw [if_neg (by omega)]

set_option maxRecDepth 100000 in
set_option maxHeartbeats 2000000 in
theorem rlongest12_any (a : Option Addr) (cap : Nat) (xs : List Int) (least : Int) (w : World) (hl63 : xs.length ≤ 4611686018427387904) (hrd : Rd w a (Bts xs)) :
    Calls Try.prog 25 #[.slice a xs.length cap, .int .i64 least] w fun e w' => e = .returned (.tuple #[.int .i64 ((S12.longest xs least).1 : Int), .int .i64 ((S12.longest xs least).2 : Int)]) ∧ Below w.heap.size w w' := by
  by_cases h1 : least < 1
  · have e1 : S12.longest xs least = (0, 0) := by unfold S12.longest; rw [if_pos (.inl h1)]
    have d1 : decide (least < 1) = true := decide_eq_true h1
    rw [e1]
    go_enter Try.func25, Try.ntmps25
    go_wp2_with fail
    go_returns
    exact ⟨rfl, Below.refl _ _⟩
  have d1 : decide (least < 1) = false := decide_eq_false h1
  by_cases h2 : 65536 < xs.length
  · have e1 : S12.longest xs least = (0, 0) := by unfold S12.longest; rw [if_pos (.inr h2)]
    have d2 : decide (65536 < (xs.length : Int)) = true := decide_eq_true (by omega)
    rw [e1]
    clear h2
    go_enter Try.func25, Try.ntmps25
    go_wp2_with fail
    go_returns
    exact ⟨rfl, Below.refl _ _⟩
  have d2 : decide (65536 < (xs.length : Int)) = false := decide_eq_false (by omega)
  have e1 : S12.longest xs least = S12.longTo xs least xs.length := by unfold S12.longest; rw [if_neg (by omega)]
  rw [e1]
  have HR := Lib.hid fun W (q : Nat) (hq : q ≤ xs.length) (hne : 0 < xs.length) (hrd : Rd W a (Bts xs)) => (show Calls Try.prog 54 #[.slice a xs.length cap, .int .i64 (q : Int)] W fun e w' => e = .returned (.int .i64 (S12.rep xs q : Int)) ∧ Below W.heap.size W w' by
    obtain ⟨g, o, rfl, _⟩ := Bts_at hrd (i := 0) hne
    exact rrepetition12_any g o cap xs q hq (by omega) W hrd)
  obtain ⟨R, hR⟩ : ∃ R, S12.longTo xs least xs.length = R := ⟨_, rfl⟩
  rw [hR]
  have HRR := Lib.hid hR
  have Hrd := Lib.hid hrd
  clear hR e1 hrd
  go_enter Try.func25, Try.ntmps25
  go_wp2_with fail
  go_loopw [6, 7, 8] (fun at_ most p wr => ∃ k : Nat, k ≤ max xs.length 1 ∧ 1 ≤ k ∧ p = .int .i64 (k : Int) ∧ at_ = .int .i64 ((S12.longTo xs least k).1 : Int) ∧ most = .int .i64 ((S12.longTo xs least k).2 : Int) ∧ Below w.heap.size w wr)
    (fun _ _ p _ => xs.length - (intOf p).toNat)
  case atStart => exact ⟨1, by omega, by omega, rfl, rfl, rfl, Below.refl _ _⟩
  case round =>
    obtain ⟨k, hk, hk1, rfl, rfl, rfl, hB⟩ := hrel
    by_cases hlt : k < xs.length
    · have HT := Lib.hid (S12.longTo_swap xs least k hk1)
      obtain ⟨⟨q1, q2⟩, hq⟩ : ∃ q, S12.longTo xs least k = q := ⟨_, rfl⟩
      have HC := Lib.hid (HR.out wr k (by omega) (by omega) (Hrd.out.step hB))
      obtain ⟨rp, hrp⟩ : ∃ rp, S12.rep xs k = rp := ⟨_, rfl⟩
      rw [hrp] at HC HT
      rw [hq] at HT ⊢
      simp only at HT ⊢
      clear hq hrp
      have dk : decide ((k : Int) < (xs.length : Int)) = true := decide_eq_true (by omega)
      go_wp2_with fail
      refine HC.out.mono ?_
      rintro e w1 ⟨rfl, hb1⟩
      have hB1 := below_trans hB hb1
      have hk9 : k < 70000 := by omega
      have hT := HT.out
      by_cases hc1 : q2 ≤ rp
      · by_cases hc2 : least ≤ rp
        · rw [if_pos ⟨hc1, hc2⟩] at hT
          have HT2 := Lib.hid hT
          have dm2 : decide (least ≤ (rp : Int)) = true := decide_eq_true hc2
          clear hT HT dk
          go_wp2_with fail
          go_roundw
          case rel => exact ⟨k + 1, by omega, by omega, by go_num, by rw [HT2.out], by rw [HT2.out], hB1⟩
          case measure => simp [intOf]; omega
        · rw [if_neg (fun h => hc2 h.2)] at hT
          have HT2 := Lib.hid hT
          have dm2 : decide (least ≤ (rp : Int)) = false := decide_eq_false hc2
          clear hT HT dk
          go_wp2_with fail
          go_roundw
          case rel => exact ⟨k + 1, by omega, by omega, by go_num, by rw [HT2.out], by rw [HT2.out], hB1⟩
          case measure => simp [intOf]; omega
      · rw [if_neg (fun h => hc1 h.1)] at hT
        have HT2 := Lib.hid hT
        clear hT HT dk
        go_wp2_with fail
        go_roundw
        case rel => exact ⟨k + 1, by omega, by omega, by go_num, by rw [HT2.out], by rw [HT2.out], hB1⟩
        case measure => simp [intOf]; omega
    · have e : S12.longTo xs least k = R := by
        rw [← HRR.out]
        rcases Nat.eq_zero_or_pos xs.length with h0 | h0
        · rw [h0, show k = 1 by omega]; rfl
        · rw [show k = xs.length by omega]
      rw [e]
      have dk : decide ((k : Int) < (xs.length : Int)) = false := decide_eq_false (by omega)
      clear e hk
      go_wp2_with fail
      go_returns
      exact ⟨rfl, hB⟩

set_option maxHeartbeats 1000000 in
theorem matchLooks_any (xs : List Int) (hl63 : xs.length ≤ 9223372036854775807) (least : Int) (a : Option Addr) (cap : Nat) (hcap : xs.length ≤ cap) (w : World) (hrd : Rd w a (Bts xs)) :
    Calls Try.prog 6 #[.slice a xs.length cap, .int .i64 least] w fun e w' => e = .returned (.bool true) ∧ Below w.heap.size w w' := by
  have HA := Lib.hid fun W => awake12_any W
  by_cases hs : 300 < xs.length
  · have ds : decide (300 < (xs.length : Int)) = true := decide_eq_true (by omega)
    clear hs
    go_enter Try.func6, Try.ntmps6
    go_wp2_with fail
    refine (HA.out _).mono ?_
    rintro e w2 ⟨rfl, hb2⟩
    go_wp2_with fail
    go_returns
    exact ⟨rfl, hb2⟩
  have ds : decide (300 < (xs.length : Int)) = false := decide_eq_false (by omega)
  have HL := Lib.hid fun W (h : Rd W a (Bts xs)) => longest12_any a cap xs least W (by omega) hcap h
  have HRL := Lib.hid fun W (h : Rd W a (Bts xs)) => rlongest12_any a cap xs least W (by omega) h
  obtain ⟨⟨q1, q2⟩, hq⟩ : ∃ q, S12.longest xs least = q := ⟨_, rfl⟩
  rw [hq] at HL HRL
  have Hrd := Lib.hid hrd
  clear hq hrd
  go_enter Try.func6, Try.ntmps6
  go_wp2_with fail
  refine (HL.out _ Hrd.out).mono ?_
  rintro e w1 ⟨rfl, hb1⟩
  go_wp2_with fail
  refine (HRL.out _ (Hrd.out.step hb1)).mono ?_
  rintro e w2 ⟨rfl, hb2⟩
  have hB2 := below_trans hb1 hb2
  go_wp2_with fail
  refine (HA.out _).mono ?_
  rintro e w3 ⟨rfl, hb3⟩
  have hB3 := below_trans hB2 hb3
  go_wp2_with fail
  go_returns
  exact ⟨rfl, hB3⟩
end Go.Proofs.Ytbfgdaijpcbddaa
