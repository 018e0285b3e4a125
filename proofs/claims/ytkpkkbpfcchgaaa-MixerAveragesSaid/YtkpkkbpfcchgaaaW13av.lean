/- MixerAverages (law 13). No condition. -/
import Derived.Test.YtkpkkbpfcchgaaaW13y
import Derived.Test.YtkpkkbpfcchgaaaSpec13c
import Derived.Test.YtkpkkbpfcchgaaaBase13
set_option linter.unusedSimpArgs false
set_option linter.unusedVariables false
set_option linter.unusedSectionVars false
namespace Go.Proofs.Ytkpkkbpfcchgaaa
open Go.RowKit

theorem own_open1 {n : Int} {l : List Int} {V : Value} {w : World} (h : MixOwn n [l] V w) : ∃ a cap, V = .agg #[.int .i64 n, .slice a 1 cap] ∧ MixOwn n [l] (.agg #[.int .i64 n, .slice a 1 cap]) w := by
  obtain ⟨R, a, cap, base, h0, rfl, h1, h2⟩ := h
  have : R.length = 1 := by rw [← List.length_map (f := OR13.l), ← h0]; rfl
  rw [this] at h1
  exact ⟨a, cap, by rw [this], R, a, cap, base, h0, by rw [this], by rw [this]; exact h1, h2⟩
theorem newOne13 (n : Nat) (w : World) (h1 : 1 ≤ n) (h2 : n ≤ 16) : Calls Try.prog 12 #[.int .i64 n, .int .i64 1] w fun e w' => ∃ a cap, e = .returned (.tuple #[.agg #[.int .i64 n, .slice a 1 cap], .int .i64 0]) ∧ MixOwn n (S13.one n) (.agg #[.int .i64 n, .slice a 1 cap]) w' ∧ Below w.heap.size w w' := by
  refine (new13_own n 1 w h1 h2 (by omega) (by omega)).mono ?_
  rintro e w' ⟨V, rfl, hM, hb⟩
  obtain ⟨a, cap, rfl, hM1⟩ := own_open1 (l := List.replicate n (65536 / (n : Int))) hM
  exact ⟨a, cap, rfl, hM1, hb⟩
theorem mixOne13 (n : Nat) (v : Int) (V : Value) (a : Option Addr) (cap : Nat) (w : World) (h1 : 1 ≤ n) (h2 : n ≤ 16) (hv : -3071 ≤ v ∧ v ≤ 3071) (hV : MixIs n (S13.one n) V w) (hrd : Rd w a (Ints (List.replicate n v))) :
    Calls Try.prog 17 #[V, .int .i64 0, .slice a n cap] w fun e w' => e = .returned (.tuple #[.int .i64 (S13.mix (List.replicate n (65536 / (n : Int))) (List.replicate n v)), .int .i64 0]) ∧ Below w.heap.size w w' := by
  have hu := S13.one_usable h1 h2 hv
  have := mixM13_any n (S13.one n) V 0 (List.replicate n v) a cap w hV (by simp; omega) hrd
  rw [List.length_replicate, hu, show S13.mixR n (S13.one n) 0 (List.replicate n v) = S13.mix (List.replicate n (65536 / (n : Int))) (List.replicate n v) by unfold S13.mixR; rw [if_pos hu]; rfl] at this
  exact this
theorem learnOne13 (n : Nat) (bit rate : Int) (V : Value) (a : Option Addr) (cap : Nat) (w : World) (h1 : 1 ≤ n) (h2 : n ≤ 16) (hb : 0 ≤ bit ∧ bit ≤ 1) (hr : 1 ≤ rate ∧ rate ≤ 255) (hV : MixIs n (S13.one n) V w) (hrd : Rd w a (Ints (List.replicate n 0))) :
    Calls Try.prog 19 #[V, .int .i64 0, .slice a n cap, .int .i64 bit, .int .i64 rate] w fun e w' => ∃ a cap, e = .returned (.tuple #[.agg #[.int .i64 n, .slice a 1 cap], .int .i64 0]) ∧ MixOwn n (S13.one n) (.agg #[.int .i64 n, .slice a 1 cap]) w' ∧ Below w.heap.size w w' := by
  have hu := S13.one_usable h1 h2 (v := 0) (by omega)
  obtain ⟨ma, mc, rfl, m1, m2, hM⟩ := mixOpen hV
  have := learn13_own n (S13.one n) ma mc 0 (List.replicate n 0) a cap bit rate w hM hrd hu hb hr
  rw [List.length_replicate, S13.one_learn h1] at this
  refine this.mono ?_
  rintro e w' ⟨V, rfl, hM2, hb2⟩
  obtain ⟨a, cap, rfl, hM1⟩ := own_open1 (l := List.replicate n (65536 / (n : Int))) hM2
  exact ⟨a, cap, rfl, hM1, hb2⟩

/-- What the last region makes. -/
def S13.same (n B : Nat) : Fresh where
  nd := [2, 9, 13]
  dv := [10, 11, 12]
  Sh := fun k u => if k = 2 then ∃ g, u = .slice (some ⟨g, 0, none⟩) n n else if k = 9 then ∃ a cap, u = .tuple #[.agg #[.int .i64 n, .slice a 1 cap], .int .i64 0] else ∃ b, u = .pointer (some ⟨b, 0, none⟩)
  R := fun k u w => if k = 2 then ∃ g, u = .slice (some ⟨g, 0, none⟩) n n ∧ Blk w g (List.replicate n (.int .i64 0)) 3 else if k = 9 then ∃ V, u = .tuple #[V, .int .i64 0] ∧ MixOwn n (S13.one n) V w else ∃ b, u = .pointer (some ⟨b, 0, none⟩) ∧ B ≤ b ∧ Blk w b [.int .i64 0, .slice none 0 0] 24
  D := fun k => if k = 9 then [2] else []
  ex := fun _ => []
  lat := fun _ => []
  fin := [9, 13]
theorem S13.same_stable (n B : Nat) : ∀ k ∈ (S13.same n B).nd, ∀ u w w', (S13.same n B).R k u w → Below w.heap.size w w' → (S13.same n B).R k u w' := by
  intro k hk u w w' h hb
  simp only [S13.same, List.mem_cons, List.not_mem_nil, or_false] at hk
  rcases hk with rfl | rfl | rfl
  · obtain ⟨g, e, h2⟩ := h; exact ⟨g, e, h2.step hb⟩
  · obtain ⟨V, e, h2⟩ := h; exact ⟨V, e, h2.step hb⟩
  · obtain ⟨g, e, h1, h2⟩ := h; exact ⟨g, e, h1, h2.step hb⟩
theorem S13.same_some (n B : Nat) : ∃ c : Nat → Value, ∀ k ∈ (S13.same n B).nd, (S13.same n B).Sh k (c k) :=
  ⟨fun k => if k = 2 then .slice (some ⟨0, 0, none⟩) n n else if k = 9 then .tuple #[.agg #[.int .i64 n, .slice none 1 0], .int .i64 0] else .pointer (some ⟨0, 0, none⟩), fun k hk => by
    simp only [S13.same, List.mem_cons, List.not_mem_nil, or_false] at hk
    rcases hk with rfl | rfl | rfl
    · exact ⟨_, rfl⟩
    · exact ⟨_, _, rfl⟩
    · exact ⟨_, rfl⟩⟩
theorem rd_zeros {w : World} {g n : Nat} (h : Blk w g (List.replicate n (.int .i64 0)) 3) : Rd w (some ⟨g, 0, none⟩) (Ints (List.replicate n 0)) := by
  rw [Ints, List.map_replicate]
  exact fun _ => ⟨g, 0, rfl, h.cells⟩

set_option maxHeartbeats 1000000 in
theorem mixerAverages_any (k0 ev : Int) (x : Lsn) (w : World) (hk : 0 ≤ k0) (hk' : k0 ≤ 255) (hev : -32768 ≤ ev) (hev' : ev ≤ 32767) (hx : x.ok) :
    Calls Try.prog 6 #[.int .u8 k0, .int .i16 ev, x.val] w fun e w' => e = .returned (.bool true) ∧ Below w.heap.size w w' := by
  obtain ⟨n, hn⟩ := Int.eq_ofNat_of_zero_le (show 0 ≤ 1 + k0 % 16 by omega)
  have n1 : 1 ≤ n := by omega
  have n2 : n ≤ 16 := by omega
  have e0 : IntKind.i64.wrap k0 = k0 := IntWalk.i64_in _ (by omega)
  have e1 : IntKind.i64.wrap (1 + k0.tmod 16) = n := by rw [Int.tmod_eq_emod_of_nonneg hk, hn]; exact IntWalk.i64_in _ (by omega)
  have e2 : IntKind.i64.wrap ev = ev := IntWalk.i64_in _ (by omega)
  obtain ⟨v, hvd⟩ : ∃ v, ev.tmod 3072 = v := ⟨_, rfl⟩
  have hv : -3071 ≤ v ∧ v ≤ 3071 := by rw [← hvd]; exact S13.tmod_bounds ev
  have hav := S13.averages n1 n2 hv
  have HN := Lib.hid fun W => newOne13 n W n1 n2
  have HM := Lib.hid fun V a cap W (hV : MixIs n (S13.one n) V W) hr => mixOne13 n v V a cap W n1 n2 hv hV hr
  have HZ := Lib.hid fun V a cap W (hV : MixIs n (S13.one n) V W) hr => mixOne13 n 0 V a cap W n1 n2 (by omega) hV hr
  rw [S13.mix_zero] at HZ
  obtain ⟨_, _, r1, r2, _⟩ := id hx
  have HL := Lib.hid fun bit V a cap W (hb : 0 ≤ bit ∧ bit ≤ 1) (hV : MixIs n (S13.one n) V W) hr => learnOne13 n bit (1 + x.rate % 255) V a cap W n1 n2 hb (by omega) hV hr
  have HS := Lib.hid fun V1 V2 W => same13_eq n (S13.one n) V1 V2 W
  generalize S13.mix (List.replicate n (65536 / (n : Int))) (List.replicate n v) = y at *
  obtain ⟨y1, y2⟩ := hav
  have e3 : IntKind.i64.wrap (v - 1) = v - 1 := IntWalk.i64_in _ (by omega)
  have e4 : IntKind.i64.wrap (v + 1) = v + 1 := IntWalk.i64_in _ (by omega)
  have e5 : ¬ y < v - 1 := by omega
  have e6 : ¬ v + 1 < y := by omega
  have e7 : IntKind.i64.wrap x.rate = x.rate := IntWalk.i64_in _ (by omega)
  have e8 : IntKind.i64.wrap (1 + x.rate.tmod 255) = 1 + x.rate % 255 := by rw [Int.tmod_eq_emod_of_nonneg r1]; exact IntWalk.i64_in _ (by omega)
  simp only [Lsn.val]
  go_enter Try.func6, Try.ntmps6
  go_wp2_with fail
  refine (HN.out _).mono ?_
  rintro e w1 ⟨a1, cap1, rfl, hM1, hb1⟩
  have hB1 : Below w.heap.size w w1 := below_trans (by go_grown) hb1
  have Hx1 := Lib.hid (((Blk.new w x.cells 50).step hb1).alloc (Obj.cells #[.int .i64 n, .slice a1 1 cap1] 24))
  have HM1 := Lib.hid (hM1.step ((Below.refl w1.heap.size w1).alloc (Nat.le_refl _) (Obj.cells #[.int .i64 n, .slice a1 1 cap1] 24)))
  have Hm1 := Lib.hid (Blk.new w1 [.int .i64 n, .slice a1 1 cap1] 24)
  clear hM1
  go_wp2
  obtain ⟨W0, hW0⟩ : ∃ W0, W0 = w1.alloc (Obj.cells #[.int .i64 n, .slice a1 1 cap1] 24) := ⟨_, rfl⟩
  have hB0 : Below w.heap.size w W0 := by rw [hW0]; have := hB1.size; go_grown
  rw [← hW0] at Hx1 HM1 Hm1 ⊢
  clear hW0 hb1
  go_loopw [11, 12] (fun l i wr => ∃ (k : Nat) (b : Option Addr) (c : Nat), k ≤ n ∧ i = .int .i64 k ∧ l = .slice b k c ∧ wr.ownsRow W0.heap.size 3 1 (.slice b k c) k (Ints (List.replicate k v)) ∧ Below W0.heap.size W0 wr) (fun _ i _ => n - (intOf i).toNat)
  case atStart => exact ⟨0, none, 0, by omega, rfl, rfl, by simpa [Ints] using World.ownsRow_nil _ _ _ _, Below.refl _ _⟩
  case round =>
    obtain ⟨k, b, c, hkn, rfl, rfl, hown, hE⟩ := hrel
    have zr : W0.heap.size ≤ wr.heap.size := hE.size
    have Hown := Lib.hid hown
    clear hown
    by_cases hlt : k < n
    · have hlt2 : (k : Int) < n := by omega
      go_wp2_with (at_builtin; refine wpList_append_rd _ _ 36 3 1 8 _ W0.heap.size elems_ints rfl rfl _ k (Ints (List.replicate k v)) rfl (Hown.out.alloc _) (some ⟨wr.heap.size, 0, none⟩) 1 1 [.int .i64 v] rfl rfl (Rd.new wr [.int .i64 v] 3) (by simp [Value.oneCell']) (by unfold maxLen; omega) (by omega) (by simp; omega) ?_; intro a2 cap2 w2 hown2 hgrow2; have hE2 : Below W0.heap.size W0 w2 := Below.grown (by go_grown) hgrow2 (by simp; omega) (fun j e => (Hown.out.lt j e).1); have Hown2 := Lib.hid hown2; clear hown2 hgrow2)
      go_roundw
      case rel =>
        refine ⟨k + 1, a2, cap2, by omega, by go_num, rfl, ?_, hE2⟩
        have := Hown2.out
        rw [List.replicate_succ', Ints_append]
        exact this
      case measure => simp [intOf]; omega
    · obtain rfl : k = n := by omega
      have hrdl := Lib.hid (Rd.of_owns Hown.out)
      have hBr : Below w.heap.size w wr := below_trans hB0 hE
      have m0 := (Hm1.out.step hE).cell 0
      have m1 := (Hm1.out.step hE).cell 1
      simp only [List.getElem?_cons_zero, List.getElem?_cons_succ] at m0 m1
      go_wp2_with fail
      refine (HM.out _ _ _ _ (HM1.out.mix.step hE) hrdl.out).mono ?_
      rintro e w3 ⟨rfl, hb3⟩
      have hE3 : Below W0.heap.size W0 w3 := below_trans hE hb3
      have hB3 : Below w.heap.size w w3 := below_trans hB0 hE3
      have hcs3 : Cells w3 [(⟨w1.heap.size, 0, none⟩, .int .i64 k), (⟨w1.heap.size, 1, none⟩, .slice a1 1 cap1), (⟨w.heap.size, 1, none⟩, .int .u8 x.rate), (⟨w.heap.size, 2, none⟩, .bool x.bit)] := ⟨(Hm1.out.step hE3).cell 0, (Hm1.out.step hE3).cell 1, (Hx1.out.step hE3).cell 1, (Hx1.out.step hE3).cell 2, trivial⟩
      have hk3 := Keeps.start hcs3
      clear hcs3 m0 m1
      go_wp2
      refine wp_region_seq 8 1 [(true, [true, true]), (false, [false, false, true]), (false, [false, false, false, true]), (true, [false, false, false, false, true, true, true]), (false, [false, false, false, false, false, false, false, true])] _ _ (Keeps w3 [(⟨w1.heap.size, 0, none⟩, .int .i64 k), (⟨w1.heap.size, 1, none⟩, .slice a1 1 cap1), (⟨w.heap.size, 1, none⟩, .int .u8 x.rate), (⟨w.heap.size, 2, none⟩, .bool x.bit)]) (by kernel_rfl) (List.take_append_drop 8 _).symm rfl rfl (by kernel_rfl) (by kernel_rfl) (hk3) (fun Y Q4 F4 hY hF => ?_)
      simp only [phased, List.flatMap_cons, List.flatMap_nil, List.take_succ_cons, List.take_zero, List.drop_succ_cons, List.drop_zero, sel_true, sel_false, sel_nil, List.map_cons, List.map_nil, List.cons_append, List.nil_append, List.append_nil]
      repeat
        apply wpSeq_read (by first | rfl | (rw [hY]; rfl))
        · intro w2 hS2
          (try simp only [Keeps, Cells] at hS2)
          go_simp
          with_reducible rfl
        simp only [Act.put, List.setIfInBounds_toArray, List.set_cons_zero, List.set_cons_succ]
      have hk4 := hk3.step ((Below.refl w3.drew.heap.size w3.drew).alloc (Nat.le_refl _) (Obj.cells (List.replicate k (.int .i64 0)).toArray 3))
      refine wpSeq_value (by first | rfl | (rw [hY]; rfl)) (op_make1 (.tmp 67) 36 3 8 (.int .i64 0) elems_ints rfl .i64 k rfl (by omega) (by unfold maxLen; omega)) hk4 ?_
      simp only [Act.put, List.setIfInBounds_toArray, List.set_cons_zero, List.set_cons_succ]
      apply wpSeq_call (by first | rfl | (rw [hY]; rfl))
      · go_simp
        with_reducible exact ⟨rfl, rfl⟩
      refine (HZ.out _ _ _ _ (HM1.out.mix.step (below_trans hE3 hk4.1)) (rd_zeros (Blk.new w3.drew (List.replicate k (.int .i64 0)) 3))).mono ?_
      rintro e w5 ⟨rfl, hb5⟩
      have hk5 := hk4.step hb5
      refine ⟨_, rfl, hk5, ?_⟩
      simp only [Act.put, List.setIfInBounds_toArray, List.set_cons_zero, List.set_cons_succ]
      repeat
        apply wpSeq_read (by first | rfl | (rw [hY]; rfl))
        · intro w2 hS2
          (try simp only [Keeps, Cells] at hS2)
          go_simp
          with_reducible rfl
        simp only [Act.put, List.setIfInBounds_toArray, List.set_cons_zero, List.set_cons_succ]
      refine wpSeq_value (by first | rfl | (rw [hY]; rfl)) (by go_simp; first | with_reducible exact ⟨rfl, rfl⟩ | with_reducible rfl) (hk5) ?_
      simp only [Act.put, List.setIfInBounds_toArray, List.set_cons_zero, List.set_cons_succ]
      refine wpSeq_done (hF.out _ _ (fun K hK => ?_))
      clear hF hY
      go_wp2_with fail
      refine OnlyK.mk (hK.out _ _ ?_)
      have hB5 : Below w.heap.size w w5 := below_trans hB3 hk5.1
      have hE5 : Below W0.heap.size W0 w5 := below_trans hE3 hk5.1
      have hcs5 := hk5.2
      have c5 := hcs5.2.2.2.1
      clear hK hk5 hk4 hk3 hb5 hb3
      have Hm5 := Lib.hid (Hm1.out.step hE5)
      have HM5 := Lib.hid (HM1.out.step hE5)
      have hml := Hm5.out.lt
      have hcs5' : Cells w5 [(⟨w1.heap.size, 0, none⟩, .int .i64 k), (⟨w1.heap.size, 1, none⟩, .slice a1 1 cap1), (⟨w.heap.size, 1, none⟩, .int .u8 x.rate)] := ⟨hcs5.1, hcs5.2.1, hcs5.2.2.1, trivial⟩
      clear hcs5
      have Hr5 := Lib.hid hcs5'
      have hml2 := (Hx1.out.step hE5).lt
      clear hcs5'
      cases hxb : x.bit
      · rw [hxb] at c5
        clear hxb
        have HL2 := Lib.hid fun W a cap (hb : Below w5.heap.size w5 W) hr => HL.out 0 _ a cap W (by omega) (HM5.out.mix.step hb) hr
        have hcs5 := Hr5.out
        go_wp2
        refine wp_region_fresh 14 2 _ _ (Keeps w5 [(⟨w1.heap.size, 0, none⟩, .int .i64 k), (⟨w1.heap.size, 1, none⟩, .slice a1 1 cap1), (⟨w.heap.size, 1, none⟩, .int .u8 x.rate)]) (S13.same k w5.heap.size) (by kernel_rfl) (List.take_append_drop 14 _).symm rfl rfl (by kernel_rfl) (Keeps.start hcs5) (fun _ _ h hb => h.step hb) (S13.same_stable _ _) (S13.same_some _ _) (fun Y F hY hF => ?_)
        simp only [List.take_succ_cons, List.take_zero, List.drop_succ_cons, List.drop_zero]
        repeat
          first
            | apply wpC_skip (by rfl)
            | (apply wpC_value (by rfl) (by first | rfl | (rw [hY]; rfl))
               · intro w2 ⟨hB2, hk2⟩
                 simp only [Cells] at hk2
                 go_simp
                 with_reducible rfl
               simp only [Act.put, List.setIfInBounds_toArray, List.set_cons_zero, List.set_cons_succ])
        intro c' hc
        obtain ⟨g2, q2⟩ : ∃ g, c' 2 = .slice (some ⟨g, 0, none⟩) k k := hc 2 (by simp [S13.same])
        obtain ⟨a9, p9, q9⟩ : ∃ a cap, c' 9 = .tuple #[.agg #[.int .i64 k, .slice a 1 cap], .int .i64 0] := hc 9 (by simp [S13.same])
        obtain ⟨b13, q13⟩ : ∃ b, c' 13 = .pointer (some ⟨b, 0, none⟩) := hc 13 (by simp [S13.same])
        clear hc
        repeat
          first
            | apply wpN_skip (by rfl)
            | (apply wpN_pure (by rfl) (by rfl) (by first | rfl | (rw [hY]; rfl))
               · intro w2
                 go_simp
                 with_reducible rfl
               simp only [Act.put, List.setIfInBounds_toArray, List.set_cons_zero, List.set_cons_succ])
        refine wpN_value (by rfl) (by rfl) (by first | rfl | (rw [hY]; rfl)) (fun _ _ h hb => h.step hb) (S13.same_stable _ _) (fun w2 hS2 _ => ⟨.slice (some ⟨w2.heap.size, 0, none⟩) k k, w2.alloc (.cells (List.replicate k (.int .i64 0)).toArray 3), op_make1 (.tmp 76) 36 3 8 (.int .i64 0) elems_ints rfl .i64 k rfl (by omega) (by unfold maxLen; omega), ⟨_, rfl⟩, ⟨_, rfl, Blk.new w2 _ _⟩, (Below.refl _ _).alloc (Nat.le_refl _) _⟩) ?_
        simp only [Act.put, List.setIfInBounds_toArray, List.set_cons_zero, List.set_cons_succ]
        simp only [Nat.zero_add, Nat.reduceAdd, q2]
        repeat
          first
            | apply wpN_skip (by rfl)
            | (apply wpN_pure (by rfl) (by rfl) (by first | rfl | (rw [hY]; rfl))
               · intro w2
                 go_simp
                 with_reducible rfl
               simp only [Act.put, List.setIfInBounds_toArray, List.set_cons_zero, List.set_cons_succ])
        apply wpN_call (by rfl) (by rfl) (by first | rfl | (rw [hY]; rfl)) (fun _ _ h hb => h.step hb) (S13.same_stable _ _)
        · intro w2 ⟨hB2, hk2⟩ _
          simp only [Cells] at hk2
          go_simp
          with_reducible exact ⟨rfl, rfl⟩
        · intro w2 hS2 hD
          obtain ⟨⟨g, e, hblk⟩, -⟩ := hD
          obtain rfl : g = g2 := by rw [q2] at e; simpa using e.symm
          refine (HL2.out _ _ _ hS2.1 (rd_zeros hblk)).mono ?_
          rintro e w3 ⟨a3, cap3, rfl, hM3, hb3⟩
          exact ⟨_, rfl, ⟨a3, cap3, rfl⟩, ⟨_, rfl, hM3⟩, hb3⟩
        simp only [Act.put, List.setIfInBounds_toArray, List.set_cons_zero, List.set_cons_succ]
        simp only [Nat.zero_add, Nat.reduceAdd, q9]
        repeat
          first
            | apply wpN_skip (by rfl)
            | (apply wpN_pure (by rfl) (by rfl) (by first | rfl | (rw [hY]; rfl))
               · intro w2
                 go_simp
                 with_reducible rfl
               simp only [Act.put, List.setIfInBounds_toArray, List.set_cons_zero, List.set_cons_succ])
        refine wpN_value (by rfl) (by rfl) (by first | rfl | (rw [hY]; rfl)) (fun _ _ h hb => h.step hb) (S13.same_stable _ _) (fun w2 hS2 _ => ⟨.pointer (some ⟨w2.heap.size, 0, none⟩), w2.alloc (.cells #[.int .i64 0, .slice none 0 0] 24), ?_, ⟨_, rfl⟩, ⟨_, rfl, hS2.1.size, Blk.new w2 _ _⟩, (Below.refl _ _).alloc (Nat.le_refl _) _⟩) ?_
        · go_simp
        simp only [Act.put, List.setIfInBounds_toArray, List.set_cons_zero, List.set_cons_succ]
        simp only [Nat.zero_add, Nat.reduceAdd, q13]
        refine hF.out c' _ (fun K w6 hK hS6 hR6 => ?_)
        obtain ⟨⟨V3, e4, hM6⟩, ⟨b3, e5, hb3, hv6⟩, -⟩ := hR6
        obtain rfl : b3 = b13 := by rw [q13] at e5; simpa using e5.symm
        obtain rfl : V3 = .agg #[.int .i64 k, .slice a9 1 p9] := by rw [q9] at e4; simpa using e4.symm
        clear hF hY e4 e5 q2 q9 q13
        have hB6 : Below w.heap.size w w6 := below_trans hB5 hS6.1
        have hE6 := hS6.1
        have d0 := hv6.cell 0
        have d1 := hv6.cell 1
        have d2 := hv6.free 0
        have d3 := hv6.free 1
        have d4 := hv6.lt
        simp only [List.getElem?_cons_zero, List.getElem?_cons_succ] at d0 d1
        have hm6 := Hm5.out.step hE6
        obtain ⟨w7, hw7⟩ : ∃ w7, w7 = (w6.setCell ⟨b3, 0, none⟩ (.int .i64 k)).setCell ⟨b3, 1, none⟩ (.slice a9 1 p9) := ⟨_, rfl⟩
        have Hv7 := Lib.hid (show Blk w7 b3 [.int .i64 k, .slice a9 1 p9] 24 by rw [hw7]; exact (hv6.set 0 (.int .i64 k)).set 1 (.slice a9 1 p9))
        have Hm7 := Lib.hid (show Blk w7 w1.heap.size [.int .i64 k, .slice a1 1 cap1] 24 by rw [hw7]; exact (hm6.other b3 0 _ (by omega)).other b3 1 _ (by omega))
        have HMa7 := Lib.hid (show MixOwn k (S13.one k) (.agg #[.int .i64 k, .slice a9 1 p9]) w7 by rw [hw7]; exact (hM6.other hv6 (by decide) (by decide)).other (hv6.set 0 (.int .i64 k)) (by decide) (by decide))
        have HMb7 := Lib.hid (show MixOwn k (S13.one k) (.agg #[.int .i64 k, .slice a1 1 cap1]) w7 by rw [hw7]; exact ((HM5.out.step hE6).other hv6 (by decide) (by decide)).other (hv6.set 0 (.int .i64 k)) (by decide) (by decide))
        have hB7 : Below w.heap.size w w7 := by rw [hw7]; exact (hB6.setCell (by simp only; have := hB5.size; omega) _).setCell (by simp only; have := hB5.size; omega) _
        go_wp2_with fail
        rw [← hw7]
        refine OnlyK.mk (hK.out _ _ ?_)
        clear hK hw7 d0 d1 d2 d3 d4 hv6 hm6 hM6 hS6 hE6 hB6
        go_wp2_with fail
        refine (awake13_any _).mono ?_
        rintro e w8 ⟨rfl, hb8⟩
        have hB8 : Below w.heap.size w w8 := below_trans hB7 hb8
        have v0 := (Hv7.out.step hb8).cell 0
        have v1 := (Hv7.out.step hb8).cell 1
        have m0 := (Hm7.out.step hb8).cell 0
        have m1 := (Hm7.out.step hb8).cell 1
        simp only [List.getElem?_cons_zero, List.getElem?_cons_succ] at v0 v1 m0 m1
        go_wp2_with fail
        refine (HS.out _ _ _ (HMa7.out.mix.step hb8) (HMb7.out.mix.step hb8)).mono ?_
        rintro e w9 ⟨rfl, hb9⟩
        have hB9 : Below w.heap.size w w9 := below_trans hB8 hb9
        go_wp2
        go_returns
        exact ⟨rfl, hB9⟩
      · rw [hxb] at c5
        clear hxb
        have HL2 := Lib.hid fun W a cap (hb : Below w5.heap.size w5 W) hr => HL.out 1 _ a cap W (by omega) (HM5.out.mix.step hb) hr
        have hcs5 := Hr5.out
        go_wp2
        refine wp_region_fresh 14 2 _ _ (Keeps w5 [(⟨w1.heap.size, 0, none⟩, .int .i64 k), (⟨w1.heap.size, 1, none⟩, .slice a1 1 cap1), (⟨w.heap.size, 1, none⟩, .int .u8 x.rate)]) (S13.same k w5.heap.size) (by kernel_rfl) (List.take_append_drop 14 _).symm rfl rfl (by kernel_rfl) (Keeps.start hcs5) (fun _ _ h hb => h.step hb) (S13.same_stable _ _) (S13.same_some _ _) (fun Y F hY hF => ?_)
        simp only [List.take_succ_cons, List.take_zero, List.drop_succ_cons, List.drop_zero]
        repeat
          first
            | apply wpC_skip (by rfl)
            | (apply wpC_value (by rfl) (by first | rfl | (rw [hY]; rfl))
               · intro w2 ⟨hB2, hk2⟩
                 simp only [Cells] at hk2
                 go_simp
                 with_reducible rfl
               simp only [Act.put, List.setIfInBounds_toArray, List.set_cons_zero, List.set_cons_succ])
        intro c' hc
        obtain ⟨g2, q2⟩ : ∃ g, c' 2 = .slice (some ⟨g, 0, none⟩) k k := hc 2 (by simp [S13.same])
        obtain ⟨a9, p9, q9⟩ : ∃ a cap, c' 9 = .tuple #[.agg #[.int .i64 k, .slice a 1 cap], .int .i64 0] := hc 9 (by simp [S13.same])
        obtain ⟨b13, q13⟩ : ∃ b, c' 13 = .pointer (some ⟨b, 0, none⟩) := hc 13 (by simp [S13.same])
        clear hc
        repeat
          first
            | apply wpN_skip (by rfl)
            | (apply wpN_pure (by rfl) (by rfl) (by first | rfl | (rw [hY]; rfl))
               · intro w2
                 go_simp
                 with_reducible rfl
               simp only [Act.put, List.setIfInBounds_toArray, List.set_cons_zero, List.set_cons_succ])
        refine wpN_value (by rfl) (by rfl) (by first | rfl | (rw [hY]; rfl)) (fun _ _ h hb => h.step hb) (S13.same_stable _ _) (fun w2 hS2 _ => ⟨.slice (some ⟨w2.heap.size, 0, none⟩) k k, w2.alloc (.cells (List.replicate k (.int .i64 0)).toArray 3), op_make1 (.tmp 76) 36 3 8 (.int .i64 0) elems_ints rfl .i64 k rfl (by omega) (by unfold maxLen; omega), ⟨_, rfl⟩, ⟨_, rfl, Blk.new w2 _ _⟩, (Below.refl _ _).alloc (Nat.le_refl _) _⟩) ?_
        simp only [Act.put, List.setIfInBounds_toArray, List.set_cons_zero, List.set_cons_succ]
        simp only [Nat.zero_add, Nat.reduceAdd, q2]
        repeat
          first
            | apply wpN_skip (by rfl)
            | (apply wpN_pure (by rfl) (by rfl) (by first | rfl | (rw [hY]; rfl))
               · intro w2
                 go_simp
                 with_reducible rfl
               simp only [Act.put, List.setIfInBounds_toArray, List.set_cons_zero, List.set_cons_succ])
        apply wpN_call (by rfl) (by rfl) (by first | rfl | (rw [hY]; rfl)) (fun _ _ h hb => h.step hb) (S13.same_stable _ _)
        · intro w2 ⟨hB2, hk2⟩ _
          simp only [Cells] at hk2
          go_simp
          with_reducible exact ⟨rfl, rfl⟩
        · intro w2 hS2 hD
          obtain ⟨⟨g, e, hblk⟩, -⟩ := hD
          obtain rfl : g = g2 := by rw [q2] at e; simpa using e.symm
          refine (HL2.out _ _ _ hS2.1 (rd_zeros hblk)).mono ?_
          rintro e w3 ⟨a3, cap3, rfl, hM3, hb3⟩
          exact ⟨_, rfl, ⟨a3, cap3, rfl⟩, ⟨_, rfl, hM3⟩, hb3⟩
        simp only [Act.put, List.setIfInBounds_toArray, List.set_cons_zero, List.set_cons_succ]
        simp only [Nat.zero_add, Nat.reduceAdd, q9]
        repeat
          first
            | apply wpN_skip (by rfl)
            | (apply wpN_pure (by rfl) (by rfl) (by first | rfl | (rw [hY]; rfl))
               · intro w2
                 go_simp
                 with_reducible rfl
               simp only [Act.put, List.setIfInBounds_toArray, List.set_cons_zero, List.set_cons_succ])
        refine wpN_value (by rfl) (by rfl) (by first | rfl | (rw [hY]; rfl)) (fun _ _ h hb => h.step hb) (S13.same_stable _ _) (fun w2 hS2 _ => ⟨.pointer (some ⟨w2.heap.size, 0, none⟩), w2.alloc (.cells #[.int .i64 0, .slice none 0 0] 24), ?_, ⟨_, rfl⟩, ⟨_, rfl, hS2.1.size, Blk.new w2 _ _⟩, (Below.refl _ _).alloc (Nat.le_refl _) _⟩) ?_
        · go_simp
        simp only [Act.put, List.setIfInBounds_toArray, List.set_cons_zero, List.set_cons_succ]
        simp only [Nat.zero_add, Nat.reduceAdd, q13]
        refine hF.out c' _ (fun K w6 hK hS6 hR6 => ?_)
        obtain ⟨⟨V3, e4, hM6⟩, ⟨b3, e5, hb3, hv6⟩, -⟩ := hR6
        obtain rfl : b3 = b13 := by rw [q13] at e5; simpa using e5.symm
        obtain rfl : V3 = .agg #[.int .i64 k, .slice a9 1 p9] := by rw [q9] at e4; simpa using e4.symm
        clear hF hY e4 e5 q2 q9 q13
        have hB6 : Below w.heap.size w w6 := below_trans hB5 hS6.1
        have hE6 := hS6.1
        have d0 := hv6.cell 0
        have d1 := hv6.cell 1
        have d2 := hv6.free 0
        have d3 := hv6.free 1
        have d4 := hv6.lt
        simp only [List.getElem?_cons_zero, List.getElem?_cons_succ] at d0 d1
        have hm6 := Hm5.out.step hE6
        obtain ⟨w7, hw7⟩ : ∃ w7, w7 = (w6.setCell ⟨b3, 0, none⟩ (.int .i64 k)).setCell ⟨b3, 1, none⟩ (.slice a9 1 p9) := ⟨_, rfl⟩
        have Hv7 := Lib.hid (show Blk w7 b3 [.int .i64 k, .slice a9 1 p9] 24 by rw [hw7]; exact (hv6.set 0 (.int .i64 k)).set 1 (.slice a9 1 p9))
        have Hm7 := Lib.hid (show Blk w7 w1.heap.size [.int .i64 k, .slice a1 1 cap1] 24 by rw [hw7]; exact (hm6.other b3 0 _ (by omega)).other b3 1 _ (by omega))
        have HMa7 := Lib.hid (show MixOwn k (S13.one k) (.agg #[.int .i64 k, .slice a9 1 p9]) w7 by rw [hw7]; exact (hM6.other hv6 (by decide) (by decide)).other (hv6.set 0 (.int .i64 k)) (by decide) (by decide))
        have HMb7 := Lib.hid (show MixOwn k (S13.one k) (.agg #[.int .i64 k, .slice a1 1 cap1]) w7 by rw [hw7]; exact ((HM5.out.step hE6).other hv6 (by decide) (by decide)).other (hv6.set 0 (.int .i64 k)) (by decide) (by decide))
        have hB7 : Below w.heap.size w w7 := by rw [hw7]; exact (hB6.setCell (by simp only; have := hB5.size; omega) _).setCell (by simp only; have := hB5.size; omega) _
        go_wp2_with fail
        rw [← hw7]
        refine OnlyK.mk (hK.out _ _ ?_)
        clear hK hw7 d0 d1 d2 d3 d4 hv6 hm6 hM6 hS6 hE6 hB6
        go_wp2_with fail
        refine (awake13_any _).mono ?_
        rintro e w8 ⟨rfl, hb8⟩
        have hB8 : Below w.heap.size w w8 := below_trans hB7 hb8
        have v0 := (Hv7.out.step hb8).cell 0
        have v1 := (Hv7.out.step hb8).cell 1
        have m0 := (Hm7.out.step hb8).cell 0
        have m1 := (Hm7.out.step hb8).cell 1
        simp only [List.getElem?_cons_zero, List.getElem?_cons_succ] at v0 v1 m0 m1
        go_wp2_with fail
        refine (HS.out _ _ _ (HMa7.out.mix.step hb8) (HMb7.out.mix.step hb8)).mono ?_
        rintro e w9 ⟨rfl, hb9⟩
        have hB9 : Below w.heap.size w w9 := below_trans hB8 hb9
        go_wp2
        go_returns
        exact ⟨rfl, hB9⟩
end Go.Proofs.Ytkpkkbpfcchgaaa
