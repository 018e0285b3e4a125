/- tryMatched (compactortop). No condition. -/
import Derived.Test.YtbfgdaijpcbddaaW12w
import Derived.Test.YtbfgdaijpcbddaaSpec12i
set_option linter.unusedSimpArgs false
set_option linter.unusedVariables false
set_option linter.unusedSectionVars false
namespace Go.Proofs.Ytbfgdaijpcbddaa
open Go.RowKit

set_option maxRecDepth 100000 in
set_option maxHeartbeats 2000000 in
theorem tryMatched12_any (xs : List Int) (l p0 f : Nat) (hl1 : 1 ≤ l) (h1 : l ≤ p0) (h2 : p0 < xs.length) (hf : xs.getD p0 0 = f) (hwin : (xs.drop (p0 - l)).take l = xs.drop (xs.length - l)) (hlen : xs.length ≤ 100000) (a : Option Addr) (cap : Nat) (hcap : xs.length ≤ cap) (hcap2 : cap ≤ 9223372036854775807) (w : World) (hrd : Rd w a (Bts xs)) :
    Calls Try.prog 14 #[.slice a xs.length cap, .int .i64 (l : Int), .int .u8 (f : Int)] w fun e w' => e = .returned (.bool true) ∧ Below w.heap.size w w' := by
  obtain ⟨g, o, rfl, _⟩ := Bts_at hrd (i := p0) h2
  obtain ⟨N, hN⟩ : ∃ N, xs.length = N := ⟨_, rfl⟩
  have Hcv := Lib.hid fun (W : World) (hW : Below w.heap.size w W) (q : Nat) (hq : l ≤ q) (hqN : q ≤ N) => conv12n (xs := (xs.drop (q - l)).take l) (n := l) (by rw [List.length_take, List.length_drop]; omega) (some ⟨g, o + (q - l), none⟩) (cap - (q - l)) W ((hrd.step hW).window (q - l) l)
  have Hcw := Lib.hid fun (W : World) (hW : Below w.heap.size w W) => conv12n (xs := (xs.drop (N - l)).take l) (n := l) (by rw [List.length_take, List.length_drop]; omega) (some ⟨g, o + (N - l), none⟩) (cap - (N - l)) W ((hrd.step hW).window (N - l) l)
  have ee : (xs.drop (N - l)).take l = xs.drop (N - l) := List.take_of_length_le (by rw [List.length_drop]; omega)
  rw [ee] at Hcw
  obtain ⟨s2, hs2⟩ : ∃ s2, strOfNums (xs.drop (N - l)) = s2 := ⟨_, rfl⟩
  have Hwin := Lib.hid (show ∀ q, q = p0 → strOfNums ((xs.drop (q - l)).take l) = s2 by rintro q rfl; rw [hwin, hN, hs2])
  rw [hs2] at Hcw
  have Hrd := Lib.hid hrd
  have Hf := Lib.hid hf
  have HNN := Lib.hid hN
  rw [hN] at h2 hlen hcap ⊢
  clear hf hwin hrd ee hs2 hN
  go_enter Try.func14, Try.ntmps14
  go_wp2_with fail
  go_loopw [7] (fun i wr => ∃ q : Nat, l ≤ q ∧ q ≤ p0 ∧ i = .int .i64 (q : Int) ∧ Below w.heap.size w wr) (fun i _ => N - (intOf i).toNat)
  case atStart => exact ⟨l, Nat.le_refl _, h1, rfl, Below.refl _ _⟩
  case round =>
    obtain ⟨q, hq1, hq2, rfl, hB⟩ := hrel
    obtain ⟨g', o', e, hcs⟩ := Bts_at (Hrd.out.step hB) (i := q) (by rw [HNN.out]; omega)
    cases e
    have y1 := hcs q (by rw [HNN.out]; omega)
    obtain ⟨u, hu⟩ : ∃ u, xs.getD q 0 = u := ⟨_, rfl⟩
    rw [hu] at y1
    have Hu := Lib.hid hu
    have hBd := below_trans hB (below_drew wr.heap.size wr)
    clear hcs hu
    have dq : decide ((q : Int) < (N : Int)) = true := decide_eq_true (by omega)
    have hqN : q < N := by omega
    have hq9 : q < 9223372036854775808 := by omega
    by_cases huf : u = (f : Int)
    · subst huf
      obtain ⟨d, hd⟩ : ∃ d, q - l = d := ⟨_, rfl⟩
      obtain ⟨d2, hd2⟩ : ∃ d2, N - l = d2 := ⟨_, rfl⟩
      obtain ⟨s1, hs1⟩ : ∃ s1, strOfNums ((xs.drop (q - l)).take l) = s1 := ⟨_, rfl⟩
      have c1 := fun X (hX : Below w.heap.size w X) => Hcv.out X hX q hq1 (by omega)
      have c2 := fun X (hX : Below w.heap.size w X) => Hcw.out X hX
      rw [hs1, hd] at c1
      rw [hd2] at c2
      have hW := Hwin.out q
      rw [hs1] at hW
      have w1 : IntKind.i64.wrap ((q : Int) - (l : Int)) = (d : Int) := by rw [IntWalk.i64_in _ (by omega)]; omega
      have w2 : IntKind.i64.wrap ((N : Int) - (l : Int)) = (d2 : Int) := by rw [IntWalk.i64_in _ (by omega)]; omega
      have k1 : ¬ cap = d := by omega
      have k2 : ¬ cap = d2 := by omega
      have k3 : q - d = l := by omega
      have k4 : N - d2 = l := by omega
      have k5 : d ≤ q := by omega
      have k6 : d2 ≤ N := by omega
      have k7 : q ≤ cap := by omega
      have hS0 : (fun X => Cells X [(⟨g, o + q, none⟩, .int .u8 (f : Int))] ∧ (convert 22 9 (.slice (some ⟨g, o + d, none⟩) l (cap - d))).run Try.prog X = .ok (.string s1) X ∧
        (convert 22 9 (.slice (some ⟨g, o + d2, none⟩) l (cap - d2))).run Try.prog X = .ok (.string s2) X) wr.drew := ⟨⟨y1, trivial⟩, c1 _ hBd, c2 _ hBd⟩
      have HW := Lib.hid hW
      clear c1 c2 hs1 hd hd2 hW
      cases hst : (s1.toList == s2.toList) with
      | true =>
        go_wp2_with fail
        refine wp_region_seq 23 0 [(true, [true, true, true, true, true, true, true, true, true, true, true, true, true, true, true, true, true, true, true, true, true, true, true])] _ _ ((fun X => Cells X [(⟨g, o + q, none⟩, .int .u8 (f : Int))] ∧ (convert 22 9 (.slice (some ⟨g, o + d, none⟩) l (cap - d))).run Try.prog X = .ok (.string s1) X ∧ (convert 22 9 (.slice (some ⟨g, o + d2, none⟩) l (cap - d2))).run Try.prog X = .ok (.string s2) X)) (by kernel_rfl) (List.take_append_drop 23 _).symm (by kernel_rfl) (by kernel_rfl) (by kernel_rfl) (by kernel_rfl) (hS0) (fun Y Q4 F4 hY hF => ?_)
        simp only [phased, List.flatMap_cons, List.flatMap_nil, List.take_succ_cons, List.take_zero, List.drop_succ_cons, List.drop_zero, sel_true, sel_false, sel_nil, List.map_cons, List.map_nil, List.cons_append, List.nil_append, List.append_nil]
        repeat
          apply wpSeq_read (by first | rfl | (rw [hY]; rfl))
          · intro w2 hS2
            (try simp only [Keeps, Cells] at hS2)
            (try simp only [HasC, Cells] at hS2)
            go_simp
            with_reducible rfl
          simp only [Act.put, List.setIfInBounds_toArray, List.set_cons_zero, List.set_cons_succ]
        refine wpSeq_done (hF.out _ _ (fun K hK => ?_))
        clear hF hY
        go_wp2_with fail
        refine OnlyK.mk (hK.out _ _ ?_)
        clear hK
        clear hS0
        go_wp2_with fail
        go_returns
        exact ⟨rfl, hBd⟩
      | false =>
        have hne : q ≠ p0 := fun e => by
          have := HW.out e
          subst this
          simp at hst
        clear HW
        go_wp2_with fail
        refine wp_region_seq 23 0 [(true, [true, true, true, true, true, true, true, true, true, true, true, true, true, true, true, true, true, true, true, true, true, true, true])] _ _ ((fun X => Cells X [(⟨g, o + q, none⟩, .int .u8 (f : Int))] ∧ (convert 22 9 (.slice (some ⟨g, o + d, none⟩) l (cap - d))).run Try.prog X = .ok (.string s1) X ∧ (convert 22 9 (.slice (some ⟨g, o + d2, none⟩) l (cap - d2))).run Try.prog X = .ok (.string s2) X)) (by kernel_rfl) (List.take_append_drop 23 _).symm (by kernel_rfl) (by kernel_rfl) (by kernel_rfl) (by kernel_rfl) (hS0) (fun Y Q4 F4 hY hF => ?_)
        simp only [phased, List.flatMap_cons, List.flatMap_nil, List.take_succ_cons, List.take_zero, List.drop_succ_cons, List.drop_zero, sel_true, sel_false, sel_nil, List.map_cons, List.map_nil, List.cons_append, List.nil_append, List.append_nil]
        repeat
          apply wpSeq_read (by first | rfl | (rw [hY]; rfl))
          · intro w2 hS2
            (try simp only [Keeps, Cells] at hS2)
            (try simp only [HasC, Cells] at hS2)
            go_simp
            with_reducible rfl
          simp only [Act.put, List.setIfInBounds_toArray, List.set_cons_zero, List.set_cons_succ]
        refine wpSeq_done (hF.out _ _ (fun K hK => ?_))
        clear hF hY
        go_wp2_with fail
        refine OnlyK.mk (hK.out _ _ ?_)
        clear hK
        clear hS0
        go_wp2_with fail
        go_roundw
        case rel => exact ⟨q + 1, by omega, by omega, by go_num, hBd⟩
        case measure => simp [intOf]; omega
    · have hne : q ≠ p0 := fun e => by subst e; exact huf (Hu.out.symm.trans Hf.out)
      have huf2 : (u == (f : Int)) = false := by simp [huf]
      have hC : HasC [(⟨g, o + q, none⟩, .int .u8 u)] wr := ⟨y1, trivial⟩
      go_wp2_with fail
      refine wp_region_seq 23 0 [(true, [true, true, true, true, true, true, true, true, true, true, true, true, true, true, true, true, true, true, true, true, true, true, true])] _ _ (HasC [(⟨g, o + q, none⟩, .int .u8 u)]) (by kernel_rfl) (List.take_append_drop 23 _).symm (by kernel_rfl) (by kernel_rfl) (by kernel_rfl) (by kernel_rfl) (hC) (fun Y Q4 F4 hY hF => ?_)
      simp only [phased, List.flatMap_cons, List.flatMap_nil, List.take_succ_cons, List.take_zero, List.drop_succ_cons, List.drop_zero, sel_true, sel_false, sel_nil, List.map_cons, List.map_nil, List.cons_append, List.nil_append, List.append_nil]
      repeat
        apply wpSeq_read (by first | rfl | (rw [hY]; rfl))
        · intro w2 hS2
          (try simp only [Keeps, Cells] at hS2)
          (try simp only [HasC, Cells] at hS2)
          go_simp
          with_reducible rfl
        simp only [Act.put, List.setIfInBounds_toArray, List.set_cons_zero, List.set_cons_succ]
      repeat
        first
          | (apply wpSeq_unread (by rw [hY]; rfl)
             simp only [Act.put, List.setIfInBounds_toArray, List.set_cons_zero, List.set_cons_succ])
          | (apply wpSeq_read (by first | rfl | (rw [hY]; rfl))
             · intro w2 hS2
               (try simp only [Keeps, Cells] at hS2)
               (try simp only [HasC, Cells] at hS2)
               go_simp
               with_reducible rfl
             simp only [Act.put, List.setIfInBounds_toArray, List.set_cons_zero, List.set_cons_succ])
      refine wpSeq_done (hF.out _ _ (fun K hK => ?_))
      clear hF hY
      go_wp2_with fail
      refine OnlyK.mk (hK.out _ _ ?_)
      clear hK
      clear hC
      go_wp2_with fail
      go_roundw
      case rel => exact ⟨q + 1, by omega, by omega, by go_num, hBd⟩
      case measure => simp [intOf]; omega
end Go.Proofs.Ytbfgdaijpcbddaa
