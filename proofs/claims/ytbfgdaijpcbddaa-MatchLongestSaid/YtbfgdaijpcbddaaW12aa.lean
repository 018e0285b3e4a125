/- The law MatchLongest, walked. No condition. -/
import Derived.Test.YtbfgdaijpcbddaaW12w
import Derived.Test.YtbfgdaijpcbddaaSpec12h
set_option linter.unusedSimpArgs false
set_option linter.unusedVariables false
set_option linter.unusedSectionVars false
namespace Go.Proofs.Ytbfgdaijpcbddaa
open Go.RowKit

set_option maxRecDepth 100000 in
set_option maxHeartbeats 2000000 in
theorem matchLongest_any (xa xb : List Int) (hXa : S12.Byt xa) (hXb : S12.Byt xb) (a b : Option Addr) (ca cb : Nat) (w : World) (hra : Rd w a (Bts xa)) (hrb : Rd w b (Bts xb)) (hla : xa.length ≤ 9223372036854775807) (hlb : xb.length ≤ 9223372036854775807) :
    Calls Try.prog 10 #[.slice a xa.length ca, .slice b xb.length cb] w fun e w' => e = .returned (.bool true) ∧ Below w.heap.size w w' := by
  have HA := Lib.hid fun W => awake12_any W
  have HSa := Lib.hid fun W => small12_any xa.length a ca W
  have HSb := Lib.hid fun W => small12_any xb.length b cb W
  by_cases hs : ¬ xa.length ≤ 60
  · rw [decide_eq_false hs] at HSa
    clear hs
    go_enter Try.func10, Try.ntmps10
    go_wp2_with fail
    refine (HSa.out _).mono ?_
    rintro e w1 ⟨rfl, hb1⟩
    go_wp2_with fail
    refine (HA.out _).mono ?_
    rintro e w2 ⟨rfl, hb2⟩
    have hB2 := below_trans hb1 hb2
    go_wp2_with fail
    go_returns
    exact ⟨rfl, hB2⟩
  replace hs := Classical.not_not.1 hs
  rw [decide_eq_true hs] at HSa
  by_cases hs2 : ¬ xb.length ≤ 60
  · rw [decide_eq_false hs2] at HSb
    clear hs2
    go_enter Try.func10, Try.ntmps10
    go_wp2_with fail
    refine (HSa.out _).mono ?_
    rintro e w1 ⟨rfl, hb1⟩
    go_wp2_with fail
    refine (HSb.out _).mono ?_
    rintro e w2 ⟨rfl, hb2⟩
    have hB2 := below_trans hb1 hb2
    go_wp2_with fail
    refine (HA.out _).mono ?_
    rintro e w3 ⟨rfl, hb3⟩
    have hB3 := below_trans hB2 hb3
    go_wp2_with fail
    go_returns
    exact ⟨rfl, hB3⟩
  replace hs2 := Classical.not_not.1 hs2
  rw [decide_eq_true hs2] at HSb
  by_cases hz : xa.length = 0
  · have ez : ((xa.length : Int) == 0) = true := by simp [hz]
    have hna : xa = [] := List.length_eq_zero_iff.1 hz
    subst hna
    clear hz ez
    simp only [List.length_nil] at HSa ⊢
    go_enter Try.func10, Try.ntmps10
    go_wp2_with fail
    refine (HSa.out _).mono ?_
    rintro e w1 ⟨rfl, hb1⟩
    go_wp2_with fail
    refine (HSb.out _).mono ?_
    rintro e w2 ⟨rfl, hb2⟩
    have hB2 := below_trans hb1 hb2
    go_wp2_with fail
    refine (HA.out _).mono ?_
    rintro e w3 ⟨rfl, hb3⟩
    have hB3 := below_trans hB2 hb3
    go_wp2_with fail
    go_returns
    exact ⟨rfl, hB3⟩
  have ez : ((xa.length : Int) == 0) = false := by simp; intro h; exact hz (by rw [h]; rfl)
  obtain ⟨p, n, hpn, g1, g2, g3, g4, g5, g6⟩ := S12.longest_twice xa xb (by omega) (by omega) (by simp only [List.length_append]; omega)
  obtain ⟨all, hall⟩ : ∃ all, xa ++ xb ++ xa = all := ⟨_, rfl⟩
  obtain ⟨N, hN⟩ : ∃ N, xa.length + xb.length + xa.length = N := ⟨_, rfl⟩
  have hal : all.length = N := by rw [← hall, ← hN]; simp only [List.length_append]
  have hN2 : N ≤ 180 := by omega
  have hBall : Bts xa ++ Bts xb ++ Bts xa = Bts all := by rw [← hall]; unfold Bts; rw [List.map_append, List.map_append]
  rw [hall] at hpn g3 g5 g6
  rw [hal] at g3 g5 g6
  have HLo := Lib.hid fun a cap W (hc : N ≤ cap) (h : Rd W a (Bts all)) => (show Calls Try.prog 24 #[.slice a N cap, .int .i64 1] W fun e w' => e = .returned (.tuple #[.int .i64 (p : Int), .int .i64 (n : Int)]) ∧ Below W.heap.size W w' by
    have h2 := longest12_any a cap all 1 W (by omega) (by omega) h
    rw [hpn, hal] at h2
    exact h2)
  have Hg5 := Lib.hid g5
  have Hg6 := Lib.hid g6
  have Hal := Lib.hid hal
  have HBall := Lib.hid hBall
  have Hra := Lib.hid hra
  have Hrb := Lib.hid hrb
  have HN := Lib.hid hN
  obtain ⟨la, hlaE⟩ : ∃ la, xa.length = la := ⟨_, rfl⟩
  obtain ⟨lb, hlbE⟩ : ∃ lb, xb.length = lb := ⟨_, rfl⟩
  rw [hlaE] at HSa HN ez g1 hz hs ⊢
  rw [hlbE] at HSb HN hs2 ⊢
  have Hla := Lib.hid hlaE
  have Hlb := Lib.hid hlbE
  clear hpn g5 g6 hall hal hBall hra hrb hN hXa hXb hlaE hlbE hla hlb
  go_enter Try.func10, Try.ntmps10
  go_wp2_with fail
  refine (HSa.out _).mono ?_
  rintro e w1 ⟨rfl, hb1⟩
  go_wp2_with fail
  refine (HSb.out _).mono ?_
  rintro e w2 ⟨rfl, hb2⟩
  have hB2 := below_trans hb1 hb2
  obtain ⟨G, hG⟩ : ∃ G, w2.heap.size = G := ⟨_, rfl⟩
  obtain ⟨w3, hw3⟩ : ∃ w3, w2.alloc (Obj.cells #[] 5) = w3 := ⟨_, rfl⟩
  have hb3 : Below w2.heap.size w2 w3 := by rw [← hw3]; exact (Below.refl _ _).alloc (Nat.le_refl _) _
  have hown3 : w3.ownsRow G 5 1 (.slice (some ⟨G, 0, none⟩) 0 0) 0 [] := by rw [← hw3, ← hG]; exact World.ownsRow_made w2 #[] 0 (Nat.le_refl _) (by decide) rfl
  have hB3 := below_trans hB2 hb3
  have hwG : w.heap.size ≤ G := by rw [← hG]; exact hB2.size
  have hG3 : G ≤ w3.heap.size := by rw [← hG]; exact hb3.size
  have HO3 := Lib.hid hown3
  have HB3 := Lib.hid hB3
  clear hown3 hb3 hB3 hb1 hb2
  go_wp2_with first
    | (at_builtin; refine wpList_append_rd (.tmp 24) (.tmp 25) 22 5 1 1 _ G elems_bytes rfl rfl _ 0 [] rfl HO3.out a la ca (Bts xa) rfl (by rw [Bts_length, Hla.out]; omega) (Hra.out.step HB3.out) (Bts_one xa) (by unfold maxLen; omega) (by omega) hG3 ?_; intro a4 c4 w4 hown4 hg4; rw [Nat.zero_add, List.nil_append] at hown4; (try rw [Nat.zero_add]); have HO4 := Lib.hid hown4; have HB4 := Lib.hid (HB3.out.trans (Below.grown (Below.refl w.heap.size w3) hg4 HB3.out.size (fun k e => Nat.le_trans hwG (HO3.out.lt k e).1))); have hG4 : G ≤ w4.heap.size := Nat.le_trans hG3 (Below.grown (Below.refl w.heap.size w3) hg4 HB3.out.size (fun k e => Nat.le_trans hwG (HO3.out.lt k e).1)).size; clear hown4 hg4)
    | (at_builtin; refine wpList_append_rd (.tmp 26) (.tmp 27) 22 5 1 1 _ G elems_bytes rfl rfl _ la (Bts xa) rfl HO4.out b lb cb (Bts xb) rfl (by rw [Bts_length, Hlb.out]; omega) (Hrb.out.step HB4.out) (Bts_one xb) (by unfold maxLen; omega) (by omega) hG4 ?_; intro a5 c5 w5 hown5 hg5; have HO5 := Lib.hid hown5; have HB5 := Lib.hid (HB4.out.trans (Below.grown (Below.refl w.heap.size w4) hg5 HB4.out.size (fun k e => Nat.le_trans hwG (HO4.out.lt k e).1))); have hG5 : G ≤ w5.heap.size := Nat.le_trans hG4 (Below.grown (Below.refl w.heap.size w4) hg5 HB4.out.size (fun k e => Nat.le_trans hwG (HO4.out.lt k e).1)).size; clear hown5 hg5)
    | (at_builtin; refine wpList_append_rd (.tmp 28) (.tmp 29) 22 5 1 1 _ G elems_bytes rfl rfl _ (la + lb) (Bts xa ++ Bts xb) rfl HO5.out a la ca (Bts xa) rfl (by rw [Bts_length, Hla.out]; omega) (Hra.out.step HB5.out) (Bts_one xa) (by unfold maxLen; omega) (by omega) hG5 ?_; intro a6 c6 w6 hown6 hg6; rw [HN.out, HBall.out] at hown6; rw [HN.out]; have HO6 := Lib.hid hown6; have HB6 := Lib.hid (HB5.out.trans (Below.grown (Below.refl w.heap.size w5) hg6 HB5.out.size (fun k e => Nat.le_trans hwG (HO5.out.lt k e).1))); clear hown6 hg6)
  obtain ⟨_, _, hsl, hNc, _⟩ := owns_slice HO6.out
  simp at hsl
  obtain ⟨rfl, rfl⟩ := hsl
  have HR6 := Lib.hid (Rd.of_owns HO6.out)
  refine (HLo.out _ _ _ hNc HR6.out).mono ?_
  rintro e w7 ⟨rfl, hb7⟩
  have hB7 := below_trans HB6.out hb7
  have HR7 := Lib.hid (HR6.out.step hb7)
  obtain ⟨g, o, hga, _⟩ := Bts_at HR7.out (i := 0) (by rw [Hal.out]; omega)
  subst hga
  obtain ⟨d, hd⟩ : ∃ d : Nat, p - n = d := ⟨_, rfl⟩
  obtain ⟨d2, hd2⟩ : ∃ d2 : Nat, N - n = d2 := ⟨_, rfl⟩
  have g5 := Hg5.out
  rw [hd, hd2] at g5
  have hr1 := HR7.out.window d n
  have hr2 := HR7.out.window d2 n
  have ee : (all.drop d2).take n = all.drop d2 := List.take_of_length_le (by rw [List.length_drop, Hal.out]; omega)
  rw [g5] at hr1
  rw [ee] at hr2
  obtain ⟨st, hst⟩ : ∃ st, strOfNums (all.drop d2) = st := ⟨_, rfl⟩
  have hlen2 : (all.drop d2).length = n := by rw [List.length_drop, Hal.out]; omega
  have hcA : ∀ X, Below w7.heap.size w7 X → (convert 22 9 (.slice (some ⟨g, o + d, none⟩) n (c6 - d))).run Try.prog X = .ok (.string st) X := fun X hX => by rw [← hst]; exact conv12n hlen2 _ _ X (hr1.step hX)
  have hcB : ∀ X, Below w7.heap.size w7 X → (convert 22 9 (.slice (some ⟨g, o + d2, none⟩) n (c6 - d2))).run Try.prog X = .ok (.string st) X := fun X hX => by rw [← hst]; exact conv12n hlen2 _ _ X (hr2.step hX)
  have hq1 : IntKind.i64.wrap ((p : Int) - (n : Int)) = (d : Int) := by rw [IntWalk.i64_in _ (by omega)]; omega
  have hq2 : IntKind.i64.wrap ((N : Int) - (n : Int)) = (d2 : Int) := by rw [IntWalk.i64_in _ (by omega)]; omega
  have k1 : ¬ c6 = d := by omega
  have k2 : ¬ c6 = d2 := by omega
  have k3 : p - d = n := by omega
  have k4 : N - d2 = n := by omega
  have k5 : d ≤ p := by omega
  have k6 : d2 ≤ N := by omega
  have k7 : p ≤ c6 := by omega
  have v1 : ¬ n < la := by have := Hla.out; omega
  have v2 : ¬ p < n := by omega
  have v3 : ¬ N ≤ p := by omega
  have v1' : decide ((n : Int) < (la : Int)) = false := decide_eq_false (by have := Hla.out; omega)
  have v2' : decide ((p : Int) < (n : Int)) = false := decide_eq_false (by omega)
  have v3' : decide ((N : Int) ≤ (p : Int)) = false := decide_eq_false (by omega)
  have HcA := Lib.hid hcA
  have HcB := Lib.hid hcB
  clear hr1 hr2 ee hst hlen2 hcA hcB hd hd2 g5
  have hS0 : (fun X => Cells X [] ∧ (convert 22 9 (.slice (some ⟨g, o + d, none⟩) n (c6 - d))).run Try.prog X = .ok (.string st) X ∧
    (convert 22 9 (.slice (some ⟨g, o + d2, none⟩) n (c6 - d2))).run Try.prog X = .ok (.string st) X) w7.drew := ⟨trivial, HcA.out _ (below_drew _ _), HcB.out _ (below_drew _ _)⟩
  go_wp2_with fail
  refine wp_region_seq 32 0 [(true, [true, true, true, true, true, true, true, true, true, true, true, true, true, true, true, true, true, true, true, true, true, true, true, true, true, true, true, true, true, true, true, true])] _ _ ((fun X => Cells X [] ∧ (convert 22 9 (.slice (some ⟨g, o + d, none⟩) n (c6 - d))).run Try.prog X = .ok (.string st) X ∧ (convert 22 9 (.slice (some ⟨g, o + d2, none⟩) n (c6 - d2))).run Try.prog X = .ok (.string st) X)) (by kernel_rfl) (List.take_append_drop 32 _).symm (by kernel_rfl) (by kernel_rfl) (by kernel_rfl) (by kernel_rfl) (hS0) (fun Y Q4 F4 hY hF => ?_)
  simp only [phased, List.flatMap_cons, List.flatMap_nil, List.take_succ_cons, List.take_zero, List.drop_succ_cons, List.drop_zero, sel_true, sel_false, sel_nil, List.map_cons, List.map_nil, List.cons_append, List.nil_append, List.append_nil]
  repeat
    apply wpSeq_read (by first | rfl | (rw [hY]; rfl))
    · intro w2 hS2
      (try simp only [Keeps, Cells] at hS2)
      (try simp only [HasC, Cells] at hS2)
      go_simp
      with_reducible rfl
    simp only [Act.put, List.setIfInBounds_toArray, List.set_cons_zero, List.set_cons_succ]
  refine wpSeq_done (hF.out _ _ (fun K hK => ?_))
  clear hF hY
  go_wp2_with fail
  refine OnlyK.mk (hK.out _ _ ?_)
  clear hK
  have hE8 := below_drew w7.heap.size w7
  clear hS0 hq1 hq2 k1 k2 k3 k4 k5 k6 k7 v1 v2 v3 v1' v2' v3'
  go_wp2_with fail
  go_loopw [8] (fun i wr => ∃ q : Nat, 1 ≤ q ∧ q ≤ N ∧ i = .int .i64 (q : Int) ∧ Below w7.heap.size w7 wr) (fun i _ => N - (intOf i).toNat)
  case atStart => exact ⟨1, by omega, by omega, rfl, hE8⟩
  case round =>
    obtain ⟨q, hq0, hqN, rfl, hE⟩ := hrel
    clear hE8
    by_cases hlt : q < N
    · have Hq1 := Lib.hid (Hg6.out q hq0 hlt)
      go_wp2_with fail
      go_loopw [9] (fun kk wr => ∃ k : Nat, k ≤ min 255 q ∧ kk = .int .i64 (k : Int) ∧ (∀ i, i < k → S12.eqAt all q i = true) ∧ Below w7.heap.size w7 wr) (fun kk _ => 255 - (intOf kk).toNat)
      case atStart => exact ⟨0, by omega, rfl, fun i h => by omega, hE⟩
      case round =>
        obtain ⟨k, hk, rfl, heq, hEk⟩ := hrel
        have Heq := Lib.hid heq
        clear heq hE
        have hEd := below_trans hEk (below_drew wr.heap.size wr)
        have hq1 := Hq1.out
        by_cases c2 : k < q
        · by_cases c1 : k < 255
          · obtain ⟨g', o', e, hcs⟩ := Bts_at (HR7.out.step hEk) (i := q - 1 - k) (by rw [Hal.out]; omega)
            cases e
            obtain ⟨i, hi⟩ : ∃ i, q - 1 - k = i := ⟨_, rfl⟩
            obtain ⟨j, hj⟩ : ∃ j, N - 1 - k = j := ⟨_, rfl⟩
            have y1 := hcs i (by rw [Hal.out]; omega)
            have y2 := hcs j (by rw [Hal.out]; omega)
            have hdef : S12.eqAt all q k = (all.getD i 0 == all.getD j 0) := by unfold S12.eqAt; rw [Hal.out, hi, hj]
            obtain ⟨u, hu⟩ : ∃ u, all.getD i 0 = u := ⟨_, rfl⟩
            obtain ⟨v, hv⟩ : ∃ v, all.getD j 0 = v := ⟨_, rfl⟩
            rw [hu, hv] at hdef
            rw [hu] at y1
            rw [hv] at y2
            have q1 : IntKind.i64.wrap (IntKind.i64.wrap ((q : Int) - 1) - (k : Int)) = (i : Int) := by rw [IntWalk.i64_in ((q : Int) - 1) (by omega), IntWalk.i64_in _ (by omega)]; omega
            have q2 : IntKind.i64.wrap (IntKind.i64.wrap ((N : Int) - 1) - (k : Int)) = (j : Int) := by rw [IntWalk.i64_in ((N : Int) - 1) (by omega), IntWalk.i64_in _ (by omega)]; omega
            have hil : i < N := by omega
            have hjl : j < N := by omega
            have hC : Cells wr [(⟨g, o + i, none⟩, .int .u8 u), (⟨g, o + j, none⟩, .int .u8 v)] := ⟨y1, y2, trivial⟩
            have Hdef := Lib.hid hdef
            have Hk := Lib.hid hk
            clear hcs hdef hu hv hi hj hk
            have d1 : decide ((k : Int) < 255) = true := decide_eq_true (by omega)
            have d2 : decide ((k : Int) < (q : Int)) = true := decide_eq_true (by omega)
            cases huv : (u == v) with
            | true =>
              rw [huv] at Hdef
              go_wp2_with fail
              refine wp_region_seq 25 0 [(true, [true, true, true, true, true, true, true, true, true, true, true, true, true, true, true, true, true, true, true, true, true, true, true, true, true])] _ _ (Keeps wr [(⟨g, o + i, none⟩, .int .u8 u), (⟨g, o + j, none⟩, .int .u8 v)]) (by kernel_rfl) (List.take_append_drop 25 _).symm (by kernel_rfl) (by kernel_rfl) (by kernel_rfl) (by kernel_rfl) (Keeps.start hC) (fun Y Q4 F4 hY hF => ?_)
              simp only [phased, List.flatMap_cons, List.flatMap_nil, List.take_succ_cons, List.take_zero, List.drop_succ_cons, List.drop_zero, sel_true, sel_false, sel_nil, List.map_cons, List.map_nil, List.cons_append, List.nil_append, List.append_nil]
              repeat
                apply wpSeq_read (by first | rfl | (rw [hY]; rfl))
                · intro w2 hS2
                  (try simp only [Keeps, Cells] at hS2)
                  (try simp only [HasC, Cells] at hS2)
                  go_simp
                  with_reducible rfl
                simp only [Act.put, List.setIfInBounds_toArray, List.set_cons_zero, List.set_cons_succ]
              repeat
                first
                  | (apply wpSeq_unread (by rw [hY]; rfl)
                     simp only [Act.put, List.setIfInBounds_toArray, List.set_cons_zero, List.set_cons_succ])
                  | (apply wpSeq_read (by first | rfl | (rw [hY]; rfl))
                     · intro w2 hS2
                       (try simp only [Keeps, Cells] at hS2)
                       (try simp only [HasC, Cells] at hS2)
                       go_simp
                       with_reducible rfl
                     simp only [Act.put, List.setIfInBounds_toArray, List.set_cons_zero, List.set_cons_succ])
              refine wpSeq_done (hF.out _ _ (fun K hK => ?_))
              clear hF hY
              go_wp2_with fail
              refine OnlyK.mk (hK.out _ _ ?_)
              clear hK
              clear hC
              go_wp2_with fail
              go_roundw
              case rel => exact ⟨k + 1, by omega, by go_num, fun i hi => by rcases Nat.lt_succ_iff_lt_or_eq.1 hi with h | rfl; exact Heq.out i h; exact Hdef.out, hEd⟩
              case measure => simp [intOf]; omega
            | false =>
              rw [huv] at Hdef
              go_wp2_with fail
              refine wp_region_seq 25 0 [(true, [true, true, true, true, true, true, true, true, true, true, true, true, true, true, true, true, true, true, true, true, true, true, true, true, true])] _ _ (Keeps wr [(⟨g, o + i, none⟩, .int .u8 u), (⟨g, o + j, none⟩, .int .u8 v)]) (by kernel_rfl) (List.take_append_drop 25 _).symm (by kernel_rfl) (by kernel_rfl) (by kernel_rfl) (by kernel_rfl) (Keeps.start hC) (fun Y Q4 F4 hY hF => ?_)
              simp only [phased, List.flatMap_cons, List.flatMap_nil, List.take_succ_cons, List.take_zero, List.drop_succ_cons, List.drop_zero, sel_true, sel_false, sel_nil, List.map_cons, List.map_nil, List.cons_append, List.nil_append, List.append_nil]
              repeat
                apply wpSeq_read (by first | rfl | (rw [hY]; rfl))
                · intro w2 hS2
                  (try simp only [Keeps, Cells] at hS2)
                  (try simp only [HasC, Cells] at hS2)
                  go_simp
                  with_reducible rfl
                simp only [Act.put, List.setIfInBounds_toArray, List.set_cons_zero, List.set_cons_succ]
              repeat
                first
                  | (apply wpSeq_unread (by rw [hY]; rfl)
                     simp only [Act.put, List.setIfInBounds_toArray, List.set_cons_zero, List.set_cons_succ])
                  | (apply wpSeq_read (by first | rfl | (rw [hY]; rfl))
                     · intro w2 hS2
                       (try simp only [Keeps, Cells] at hS2)
                       (try simp only [HasC, Cells] at hS2)
                       go_simp
                       with_reducible rfl
                     simp only [Act.put, List.setIfInBounds_toArray, List.set_cons_zero, List.set_cons_succ])
              refine wpSeq_done (hF.out _ _ (fun K hK => ?_))
              clear hF hY
              go_wp2_with fail
              refine OnlyK.mk (hK.out _ _ ?_)
              clear hK
              clear hC
              have hRk : S12.rep all q = k := S12.rep_of Hk.out Heq.out (.inr Hdef.out)
              have hle := hq1.1
              have hlt2 := hq1.2
              rw [hRk] at hle hlt2
              have e1 : decide ((n : Int) < (k : Int)) = false := decide_eq_false (by omega)
              have e1' : ¬ n < k := by omega
              have hfin : ((k : Int) == (n : Int)) = false ∨ (((k : Int) == (n : Int)) = true ∧ ¬ p < q) := by
                cases h : ((k : Int) == (n : Int)) with
                | false => exact .inl rfl
                | true =>
                  refine .inr ⟨rfl, ?_⟩
                  have h3 : k = n := by simp at h; omega
                  have := hlt2 h3
                  omega
              rcases hfin with e2 | ⟨e2, e3⟩
              · go_wp2_with fail
                go_roundw
                case rel => exact ⟨q + 1, by omega, by omega, by go_num, hEd⟩
                case measure => simp [intOf]; omega
              · have e4 : decide ((p : Int) < (q : Int)) = false := decide_eq_false (by omega)
                go_wp2_with fail
                go_roundw
                case rel => exact ⟨q + 1, by omega, by omega, by go_num, hEd⟩
                case measure => simp [intOf]; omega
          · have d1 : decide ((k : Int) < 255) = false := decide_eq_false (by omega)
            have d2 : decide ((k : Int) < (q : Int)) = true := decide_eq_true (by omega)
            have hC : Cells wr [] := trivial
            go_wp2_with fail
            refine wp_region_seq 25 0 [(true, [true, true, true, true, true, true, true, true, true, true, true, true, true, true, true, true, true, true, true, true, true, true, true, true, true])] _ _ (Keeps wr []) (by kernel_rfl) (List.take_append_drop 25 _).symm (by kernel_rfl) (by kernel_rfl) (by kernel_rfl) (by kernel_rfl) (Keeps.start hC) (fun Y Q4 F4 hY hF => ?_)
            simp only [phased, List.flatMap_cons, List.flatMap_nil, List.take_succ_cons, List.take_zero, List.drop_succ_cons, List.drop_zero, sel_true, sel_false, sel_nil, List.map_cons, List.map_nil, List.cons_append, List.nil_append, List.append_nil]
            repeat
              apply wpSeq_read (by first | rfl | (rw [hY]; rfl))
              · intro w2 hS2
                (try simp only [Keeps, Cells] at hS2)
                (try simp only [HasC, Cells] at hS2)
                go_simp
                with_reducible rfl
              simp only [Act.put, List.setIfInBounds_toArray, List.set_cons_zero, List.set_cons_succ]
            repeat
              first
                | (apply wpSeq_unread (by rw [hY]; rfl)
                   simp only [Act.put, List.setIfInBounds_toArray, List.set_cons_zero, List.set_cons_succ])
                | (apply wpSeq_read (by first | rfl | (rw [hY]; rfl))
                   · intro w2 hS2
                     (try simp only [Keeps, Cells] at hS2)
                     (try simp only [HasC, Cells] at hS2)
                     go_simp
                     with_reducible rfl
                   simp only [Act.put, List.setIfInBounds_toArray, List.set_cons_zero, List.set_cons_succ])
            refine wpSeq_done (hF.out _ _ (fun K hK => ?_))
            clear hF hY
            go_wp2_with fail
            refine OnlyK.mk (hK.out _ _ ?_)
            clear hK
            clear hC
            have hRk : S12.rep all q = k := S12.rep_of hk Heq.out (.inl (by omega))
            have hle := hq1.1
            have hlt2 := hq1.2
            rw [hRk] at hle hlt2
            have e1 : decide ((n : Int) < (k : Int)) = false := decide_eq_false (by omega)
            have e1' : ¬ n < k := by omega
            have hfin : ((k : Int) == (n : Int)) = false ∨ (((k : Int) == (n : Int)) = true ∧ ¬ p < q) := by
              cases h : ((k : Int) == (n : Int)) with
              | false => exact .inl rfl
              | true =>
                refine .inr ⟨rfl, ?_⟩
                have h3 : k = n := by simp at h; omega
                have := hlt2 h3
                omega
            rcases hfin with e2 | ⟨e2, e3⟩
            · go_wp2_with fail
              go_roundw
              case rel => exact ⟨q + 1, by omega, by omega, by go_num, hEd⟩
              case measure => simp [intOf]; omega
            · have e4 : decide ((p : Int) < (q : Int)) = false := decide_eq_false (by omega)
              go_wp2_with fail
              go_roundw
              case rel => exact ⟨q + 1, by omega, by omega, by go_num, hEd⟩
              case measure => simp [intOf]; omega
        · have d2 : decide ((k : Int) < (q : Int)) = false := decide_eq_false (by omega)
          have hC : Cells wr [] := trivial
          go_wp2_with fail
          refine wp_region_seq 25 0 [(true, [true, true, true, true, true, true, true, true, true, true, true, true, true, true, true, true, true, true, true, true, true, true, true, true, true])] _ _ (Keeps wr []) (by kernel_rfl) (List.take_append_drop 25 _).symm (by kernel_rfl) (by kernel_rfl) (by kernel_rfl) (by kernel_rfl) (Keeps.start hC) (fun Y Q4 F4 hY hF => ?_)
          simp only [phased, List.flatMap_cons, List.flatMap_nil, List.take_succ_cons, List.take_zero, List.drop_succ_cons, List.drop_zero, sel_true, sel_false, sel_nil, List.map_cons, List.map_nil, List.cons_append, List.nil_append, List.append_nil]
          repeat
            apply wpSeq_read (by first | rfl | (rw [hY]; rfl))
            · intro w2 hS2
              (try simp only [Keeps, Cells] at hS2)
              (try simp only [HasC, Cells] at hS2)
              go_simp
              with_reducible rfl
            simp only [Act.put, List.setIfInBounds_toArray, List.set_cons_zero, List.set_cons_succ]
          repeat
            first
              | (apply wpSeq_unread (by rw [hY]; rfl)
                 simp only [Act.put, List.setIfInBounds_toArray, List.set_cons_zero, List.set_cons_succ])
              | (apply wpSeq_read (by first | rfl | (rw [hY]; rfl))
                 · intro w2 hS2
                   (try simp only [Keeps, Cells] at hS2)
                   (try simp only [HasC, Cells] at hS2)
                   go_simp
                   with_reducible rfl
                 simp only [Act.put, List.setIfInBounds_toArray, List.set_cons_zero, List.set_cons_succ])
          refine wpSeq_done (hF.out _ _ (fun K hK => ?_))
          clear hF hY
          go_wp2_with fail
          refine OnlyK.mk (hK.out _ _ ?_)
          clear hK
          clear hC
          have hRk : S12.rep all q = k := S12.rep_of hk Heq.out (.inl (by omega))
          have hle := hq1.1
          have hlt2 := hq1.2
          rw [hRk] at hle hlt2
          have e1 : decide ((n : Int) < (k : Int)) = false := decide_eq_false (by omega)
          have e1' : ¬ n < k := by omega
          have hfin : ((k : Int) == (n : Int)) = false ∨ (((k : Int) == (n : Int)) = true ∧ ¬ p < q) := by
            cases h : ((k : Int) == (n : Int)) with
            | false => exact .inl rfl
            | true =>
              refine .inr ⟨rfl, ?_⟩
              have h3 : k = n := by simp at h; omega
              have := hlt2 h3
              omega
          rcases hfin with e2 | ⟨e2, e3⟩
          · go_wp2_with fail
            go_roundw
            case rel => exact ⟨q + 1, by omega, by omega, by go_num, hEd⟩
            case measure => simp [intOf]; omega
          · have e4 : decide ((p : Int) < (q : Int)) = false := decide_eq_false (by omega)
            go_wp2_with fail
            go_roundw
            case rel => exact ⟨q + 1, by omega, by omega, by go_num, hEd⟩
            case measure => simp [intOf]; omega
    · obtain rfl : q = N := by omega
      have dq : decide ((q : Int) < (q : Int)) = false := by simp
      go_wp2_with fail
      refine (HA.out _).mono ?_
      rintro e w9 ⟨rfl, hb9⟩
      have hB9 := below_trans (below_trans hB7 hE) hb9
      go_wp2_with fail
      go_returns
      exact ⟨rfl, hB9⟩
end Go.Proofs.Ytbfgdaijpcbddaa
