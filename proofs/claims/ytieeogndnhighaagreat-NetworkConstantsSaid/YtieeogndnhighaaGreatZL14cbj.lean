/- A part of the proof that ends in L14c (Mx14, Xl14, Kc14, Kd14, Kw14). No condition. -/
import Derived.Below
import Derived.BigQuiet
import Derived.Deep.Draws
import Derived.Deep.Light
import Derived.Deep.MidRow
import Derived.Deep.QuietTactic
import Derived.Deep.RegionHeld3
import Derived.Deep.Slices
import Derived.Great.BuildSlice
import Derived.Handy
import Derived.Laws.AppendOwn
import Derived.Laws.AppendOwnNone
import Derived.Laws.CopyOwn
import Derived.Laws.MakeOwn
import Derived.Laws.OwnMore
import Derived.Laws.Tables
import Derived.Lib.Hide
import Derived.Lib.MinMax
import Derived.LoadGo2
import Derived.LoopIn
import Derived.LoopNIn
import Derived.Maps.AppendAt
import Derived.Orders
import Derived.OrdersHeld
import Derived.OwnWalkIn
import Derived.RangeFuncBound
import Derived.RangeFuncCalls
import Derived.RangeFuncLeaves
import Derived.RangeFuncNested
import Derived.RangeFuncWrites
import Derived.Shelf.Abstract
import Derived.Shelf.RegionOpen
import Derived.Sort.BigQuietIn
import Derived.Sort.QuietIn
import Derived.StillTail
import Derived.StillTailTactics
import Derived.Tactics
import Derived.TacticsInMore
import Derived.Test.YtieeogndnhighaaGreatRows
import Derived.Test.YtieeogndnhighaaGreatShelf
import Derived.WalkKit
import Derived.WalkLawsBesides
import Derived.WalkSpells
import Derived.Test.YtieeogndnhighaaGreatZL14cbe
import Derived.Test.YtieeogndnhighaaGreatZL14cbi
set_option linter.unusedSimpArgs false
set_option linter.unusedVariables false
set_option linter.unusedSectionVars false
namespace Go.Proofs.YtieeogndnhighaaGreat
open Go.RowKit
theorem Kept.toX14 {B : Nat} {w w' : World} (h : Kept 0 B w w') : KepX (fun k => k < B) w w' := ⟨h.os, h.tape, h.output, h.size, fun k hk hl => h.same k (.inr (Nat.le_of_not_lt hk)) hl⟩
theorem MixNew.kepX {B : Nat} {n : Int} {L : List (List Int)} {V : Value} {w w' : World} (h : MixNew B n L V w) (hk : KepX (fun k => k < B) w w') : MixNew B n L V w' := by
  obtain ⟨R, a, cap, base, hB, e1, e2, ho, hR, hp⟩ := h
  refine ⟨R, a, cap, base, hB, e1, e2, owns_kepX ho hk (fun g e => ?_), fun r hr => ?_, hp⟩
  · obtain ⟨h1, _⟩ := owns_block ho e
    show ¬ g < B
    omega
  · obtain ⟨h1, h2, h3, cs, hb, h4⟩ := hR r hr
    exact ⟨h1, h2, h3, cs, hb.kepX hk (show ¬ r.b < B by omega), h4⟩
theorem MixNew.shape {B : Nat} {n : Int} {L : List (List Int)} {V : Value} {w : World} (h : MixNew B n L V w) : ∃ a cap, V = .agg #[.int .i64 n, .slice a L.length cap] := by
  obtain ⟨R, a, cap, base, _, e1, e2, _⟩ := h
  exact ⟨a, cap, by rw [e2, e1, List.length_map]⟩
theorem MixNew.low {B B' : Nat} {n : Int} {L : List (List Int)} {V : Value} {w : World} (h : MixNew B n L V w) (hb : B' ≤ B) : MixNew B' n L V w := by
  obtain ⟨R, a, cap, base, h1, h2⟩ := h
  exact ⟨R, a, cap, base, Nat.le_trans hb h1, h2⟩
theorem KepX.mono0 {A B : Nat} {w w' : World} (h : KepX (fun k => k < A) w w') (hb : A ≤ B) : KepX (fun k => k < B) w w' := h.mono (fun k _ hk => Nat.lt_of_lt_of_le hk hb)
/-- A store into a block of another type. -/
theorem MixNew.apart14 {B b : Nat} {n : Int} {L : List (List Int)} {V : Value} {w w' : World} {cs : List Value} {t : TypeId} (h : MixNew B n L V w) (hB : Blk w b cs t) (h1 : ¬ 39 = t) (h2 : ¬ 3 = t) (hg : w.grownBy w' (some b)) : MixNew B n L V w' := by
  obtain ⟨R, a, cap, base, hb, e1, e2, ho, hR, hp⟩ := h
  refine ⟨R, a, cap, base, hb, e1, e2, owns_kepX (X := fun k => k = b) ho (KepX.row hg (fun k e => .inl (Option.some.inj e).symm)) (fun g e => ?_), fun r hr => ?_, hp⟩
  · rintro rfl
    exact own_apart14 ho hB h1 e
  · obtain ⟨q1, q2, q3, cs', hb', q4⟩ := hR r hr
    refine ⟨q1, q2, q3, cs', hb'.keptRow hg (fun e => ?_), q4⟩
    have e := Option.some.inj e
    rw [e] at hb'
    unfold Blk at hb' hB
    rw [hb'] at hB
    cases hB
    exact h2 rfl
theorem PIs.ofX {n : Int} {l : List (List Int)} {a : Option Addr} {cap : Nat} {w : World} (h : MixIs n l (.agg #[.int .i64 n, .slice a l.length cap]) w) : PIs { S14.P0 with mi := n, mw := l } { Lay0 with a3 := a, c3 := cap } w :=
  ⟨Rd.nil _ _, (PIs.zero w).tab, (PIs.zero w).mch, h, (PIs.zero w).apm⟩
set_option maxRecDepth 100000 in
theorem info_X14 : (Tryz.prog.info? 79).map (·.size) = some 2 := by kernel_rfl
set_option maxRecDepth 100000 in
set_option maxHeartbeats 1500000 in
theorem mixed14_fresh (c : S14.C) (n P q : Nat) (hn : n ≤ 16) (hb : c.bits = n) (hP : 2 ^ n = P) (hfs : 0 ≤ c.first ∧ c.first ≤ c.second ∧ c.second ≤ 9223372036854775806) (hq : c.second - c.first + 1 = (q : Int)) (hq16 : q ≤ 16) (w : World) :
    Calls Tryz.prog 263 #[CV c] w fun e w' => ∃ y, e = .returned (PV { S14.P0 with mi := (q : Int), mw := List.replicate P (List.replicate q (65536 / (q : Int))) } y) ∧ PRob 0 w.heap.size { S14.P0 with mi := (q : Int), mw := List.replicate P (List.replicate q (65536 / (q : Int))) } y w' ∧ Below w.heap.size w w' := by
  have hp := pow16 hn
  rw [hP] at hp
  have HS := Lib.hid fun W => size14_any c n P hn hb hP W
  have HI := Lib.hid fun W => inputs14_big c hfs W
  have HN := Lib.hid fun W => new13_own q P W (by omega) hq16 hp.1 hp.2
  obtain ⟨ws, hws⟩ : ∃ l, List.replicate P (List.replicate q (65536 / (q : Int))) = l := ⟨_, rfl⟩
  rw [hws] at HN ⊢
  obtain ⟨W1, hW1⟩ : ∃ W1, (w.alloc (.cells (Cells14 c).toArray 120)).alloc (.cells zP 83) = W1 := ⟨_, rfl⟩
  have k1 : Blk W1 w.heap.size (Cells14 c) 120 := by rw [← hW1]; exact (Blk.new w _ _).alloc _
  have k2 : Blk W1 (w.heap.size + 1) (PVals S14.P0 Lay0) 83 := by
    rw [← hW1]
    have h := blk_zP (w.alloc (.cells (Cells14 c).toArray 120))
    rwa [World.size_alloc] at h
  have B1 : Below w.heap.size w W1 := by rw [← hW1]; exact ((Below.refl _ _).alloc (Nat.le_refl _) _).alloc (by simp) _
  have hW1s : W1.heap.size = w.heap.size + 2 := by rw [← hW1]; simp
  obtain ⟨kind, bits, limit, rate, first, second⟩ := c
  unfold CV at HI HS ⊢
  unfold Cells14 at *
  simp only at HI HS hW1 k1 hq ⊢
  rw [hq] at HI
  obtain ⟨mi, hT⟩ : ∃ T : Int, (q : Int) = T := ⟨_, rfl⟩
  rw [hT] at HI HN ⊢
  have hCS : Cells W1 [(⟨w.heap.size, 0, none⟩, .int .i64 kind), (⟨w.heap.size, 1, none⟩, .int .i64 bits), (⟨w.heap.size, 2, none⟩, .int .i64 limit), (⟨w.heap.size, 3, none⟩, .int .i64 rate), (⟨w.heap.size, 4, none⟩, .int .i64 first), (⟨w.heap.size, 5, none⟩, .int .i64 second)] := ⟨k1.cell 0, k1.cell 1, k1.cell 2, k1.cell 3, k1.cell 4, k1.cell 5, trivial⟩
  clear hb hp hws hq hq16 hfs hn hP hT
  go_enter Tryz.func263, Tryz.ntmps263
  go_wp2_with (first
    | (refine wpList_alloc 83 zP alloc_P (by rfl) (by rfl) ?_
       rw [hW1])
    | fail)
  simp only [World.size_alloc]
  refine wp_region_plan 11 1 (.read 0 (.read 2 (.read 3 (.two (.one 1 (.two (.one 4 (.two (.one 5 (.read 6 (.read 7 (.read 8 (.one 9 (.one 10 .done)))))) (.one 9 (.one 5 (.read 6 (.read 7 (.read 8 (.one 10 .done)))))))) (.one 9 (.one 4 (.one 5 (.read 6 (.read 7 (.read 8 (.one 10 .done))))))))) (.one 9 (.one 1 (.one 4 (.one 5 (.read 6 (.read 7 (.read 8 (.one 10 .done)))))))))))) _ _ o0P (fun K => Below W1.heap.size W1 K ∧ Cells K [(⟨w.heap.size, 0, none⟩, .int .i64 kind), (⟨w.heap.size, 1, none⟩, .int .i64 bits), (⟨w.heap.size, 2, none⟩, .int .i64 limit), (⟨w.heap.size, 3, none⟩, .int .i64 rate), (⟨w.heap.size, 4, none⟩, .int .i64 first), (⟨w.heap.size, 5, none⟩, .int .i64 second)]) (by kernel_rfl) (List.take_append_drop 11 _).symm (by kernel_rfl) (by kernel_rfl) (by kernel_rfl) (by kernel_rfl) (⟨(Below.refl _ _).drew, hCS⟩) (fun Y Q4 F4 hY hF => ?_)
  simp only [Plan.map, List.take_succ_cons, List.take_zero, List.drop_succ_cons, List.drop_zero, List.getD_cons_zero, List.getD_cons_succ]
  repeat
    apply wpPlan_read (by first | rfl | (rw [hY]; rfl))
    · intro w2 hS2
      (try simp only [Keeps, Cells] at hS2)
      (try simp only [HasC, Cells] at hS2)
      go_simp
      with_reducible rfl
    simp only [Act.put, List.setIfInBounds_toArray, List.set_cons_zero, List.set_cons_succ]
  have fin : ∀ (ma : Option Addr) (ml mc b3 : Nat) (w9 wS : World), ml = ws.length → Below W1.heap.size W1 w9 → MixNew W1.heap.size mi ws (.agg #[.int .i64 mi, .slice ma ml mc]) w9 → W1.heap.size ≤ b3 → Blk wS b3 [.int .i64 mi, .slice ma ml mc] 79 → MixNew W1.heap.size mi ws (.agg #[.int .i64 mi, .slice ma ml mc]) wS → Below W1.heap.size W1 wS → F4 { tmps := #[.agg #[.int .i64 kind, .int .i64 bits, .int .i64 limit, .int .i64 rate, .int .i64 first, .int .i64 second], .pointer (some ⟨w.heap.size, 0, none⟩), .pointer (some ⟨(w.heap.size + 1), 0, none⟩), .pointer (some ⟨b3, 0, none⟩), undef, .tuple #[.agg #[.int .i64 mi, .slice ma ml mc], .int .i64 0], .agg #[.int .i64 kind, .int .i64 bits, .int .i64 limit, .int .i64 rate, .int .i64 first, .int .i64 second], .int .i64 mi, .pointer (some ⟨w.heap.size, 0, none⟩), .agg #[.int .i64 kind, .int .i64 bits, .int .i64 limit, .int .i64 rate, .int .i64 first, .int .i64 second], .int .i64 (P : Int), .tuple #[.agg #[.int .i64 mi, .slice ma ml mc], .int .i64 0], .agg #[.int .i64 mi, .slice ma ml mc], .int .i64 0, undef, undef], defers := [] } wS := by
    intro ma ml mc b3 w9 wS hml hb9 hN9 zb3 ES hNS hbS
    refine hF _ _ (fun K hK => ?_)
    clear hF hY hCS
    have HK := Lib.hid hK
    clear hK
    go_wp2_with fail
    refine OnlyK.mk (HK.out _ _ ?_)
    subst hml
    have k29 := k2.step hbS
    have HNS := Lib.hid hNS
    have BS := below_trans B1 hbS
    clear hNS hN9 hb9 hbS
    have hone : ∀ v ∈ PVals { S14.P0 with mi := mi, mw := ws } { Lay0 with a3 := ma, c3 := mc }, v.oneCell' = true := PVals_one _ _
    have hPV : PVals { S14.P0 with mi := mi, mw := ws } { Lay0 with a3 := ma, c3 := mc } = [.slice none 0 0, .int .i64 0, .slice none 0 0, .int .i64 0, .int .i64 0, .int .i64 0, .slice none 0 0, .slice none 0 0, .int .i64 0, .int .i64 0, .int .i64 0, .int .i64 0, .slice none 0 0, .int .i64 mi, .slice ma ws.length mc, .slice none 0 0] := rfl
    rw [hPV] at hone
    go_wp2_with (first
      | (refine wpList_loadB 79 (.tmp 3) (by rfl) (by rfl) b3 (by rfl) [.int .i64 mi, .slice ma ws.length mc] 79 ES _ Tryz.underlying79 rfl info_X14 ?_)
      | (refine wpList_storeB 83 (.tmp 2) (.tmp 15) (by rfl) (by rfl) (w.heap.size + 1) (by rfl) [.slice none 0 0, .int .i64 0, .slice none 0 0, .int .i64 0, .int .i64 0, .int .i64 0, .slice none 0 0, .slice none 0 0, .int .i64 0, .int .i64 0, .int .i64 0, .int .i64 0, .slice none 0 0, .int .i64 mi, .slice ma ws.length mc, .slice none 0 0] (by rfl) _ 83 k29 (info_P.trans rfl) rfl hone ?_
         intro wL EL gL sL))
    have hL := run_loadVar_mid wL _ 0 _ _ _ EL.cells Tryz.underlying83 rfl (info_P.trans rfl)
    have hNL := HNS.out.kepX (KepX.row gL (fun b e => .inl (by have := Option.some.inj e; omega)))
    refine bodyPost_ret (v := .agg #[.slice none 0 0, .int .i64 0, .slice none 0 0, .int .i64 0, .int .i64 0, .int .i64 0, .slice none 0 0, .slice none 0 0, .int .i64 0, .int .i64 0, .int .i64 0, .int .i64 0, .slice none 0 0, .int .i64 mi, .slice ma ws.length mc, .slice none 0 0]) ?_ rfl ?_
    · exact results_cell (show Tryz.f263.results = #[.cell 2 83] from rfl) (p := ⟨w.heap.size + 1, 0, none⟩) rfl hL
    · refine ⟨{ Lay0 with a3 := ma, c3 := mc }, ?_, fun w' hk => PIs.ofX (hNL.kepX (hk.toX14.mono0 (by omega))).own.mix, BS.trans (rowBelow gL (by omega) BS.size)⟩
      unfold PV
      rw [hPV]
  have hbv0 : Below W1.heap.size W1 W1.drew := (Below.refl _ _).drew
  obtain ⟨v0, hv0⟩ : ∃ v, W1.drew = v := ⟨_, rfl⟩
  rw [hv0] at hbv0 ⊢
  refine wpPlan_two ?_ ?_
  · skip
    apply wpPlan_call (by first | rfl | (rw [hY]; rfl))
    · go_simp
      with_reducible exact ⟨rfl, rfl⟩
    refine (HI.out _).mono ?_
    rintro e v1 ⟨rfl, hbv10⟩
    have hbv1 := below_trans hbv0 hbv10
    clear hbv10
    refine ⟨_, rfl, ⟨hbv1, Cells.step hbv1 hCS⟩, ?_⟩
    simp only [Act.put, List.setIfInBounds_toArray, List.set_cons_zero, List.set_cons_succ]
    repeat
      apply wpPlan_read (by first | rfl | (rw [hY]; rfl))
      · intro w2 hS2
        (try simp only [Keeps, Cells] at hS2)
        (try simp only [HasC, Cells] at hS2)
        go_simp
        with_reducible rfl
      simp only [Act.put, List.setIfInBounds_toArray, List.set_cons_zero, List.set_cons_succ]
    refine wpPlan_two ?_ ?_
    · skip
      apply wpPlan_call (by first | rfl | (rw [hY]; rfl))
      · go_simp
        with_reducible exact ⟨rfl, rfl⟩
      refine (HS.out _).mono ?_
      rintro e v2 ⟨rfl, hbv20⟩
      have hbv2 := below_trans hbv1 hbv20
      clear hbv20
      refine ⟨_, rfl, ⟨hbv2, Cells.step hbv2 hCS⟩, ?_⟩
      simp only [Act.put, List.setIfInBounds_toArray, List.set_cons_zero, List.set_cons_succ]
      repeat
        apply wpPlan_read (by first | rfl | (rw [hY]; rfl))
        · intro w2 hS2
          (try simp only [Keeps, Cells] at hS2)
          (try simp only [HasC, Cells] at hS2)
          go_simp
          with_reducible rfl
        simp only [Act.put, List.setIfInBounds_toArray, List.set_cons_zero, List.set_cons_succ]
      refine wpPlan_two ?_ ?_
      · skip
        apply wpPlan_call (by first | rfl | (rw [hY]; rfl))
        · go_simp
          with_reducible exact ⟨rfl, rfl⟩
        refine (HN.out _).mono ?_
        rintro e v3 ⟨VX, rfl, NS, hbv30⟩
        have hbv3 := below_trans hbv2 hbv30
        obtain ⟨ma, mc, rfl⟩ := NS.shape
        have NS : MixNew W1.heap.size mi ws _ v3 := NS.low (hbv2.size)
        clear hbv30
        refine ⟨_, rfl, ⟨hbv3, Cells.step hbv3 hCS⟩, ?_⟩
        simp only [Act.put, List.setIfInBounds_toArray, List.set_cons_zero, List.set_cons_succ]
        repeat
          apply wpPlan_read (by first | rfl | (rw [hY]; rfl))
          · intro w2 hS2
            (try simp only [Keeps, Cells] at hS2)
            (try simp only [HasC, Cells] at hS2)
            go_simp
            with_reducible rfl
          simp only [Act.put, List.setIfInBounds_toArray, List.set_cons_zero, List.set_cons_succ]
        have hbv40 : Below v3.heap.size v3 (v3.alloc (.cells #[.int .i64 0, .slice none 0 0] 79)) := (Below.refl _ _).alloc (Nat.le_refl _) _
        have hbv4 := below_trans hbv3 hbv40
        refine wpPlan_value (by first | rfl | (rw [hY]; rfl)) (by go_simp; first | with_reducible exact ⟨rfl, rfl⟩ | with_reducible rfl) ((show Below W1.heap.size W1 (v3.alloc (.cells #[.int .i64 0, .slice none 0 0] 79)) ∧ Cells (v3.alloc (.cells #[.int .i64 0, .slice none 0 0] 79)) [(⟨w.heap.size, 0, none⟩, .int .i64 kind), (⟨w.heap.size, 1, none⟩, .int .i64 bits), (⟨w.heap.size, 2, none⟩, .int .i64 limit), (⟨w.heap.size, 3, none⟩, .int .i64 rate), (⟨w.heap.size, 4, none⟩, .int .i64 first), (⟨w.heap.size, 5, none⟩, .int .i64 second)] from ⟨hbv4, Cells.step hbv4 hCS⟩)) ?_
        simp only [Act.put, List.setIfInBounds_toArray, List.set_cons_zero, List.set_cons_succ]
        have NS := NS.kepX (KepX.below hbv40)
        have kN := Blk.new v3 [.int .i64 0, .slice none 0 0] 79
        have zN : W1.heap.size ≤ v3.heap.size := hbv3.size
        obtain ⟨b3, hb3⟩ : ∃ x, v3.heap.size = x := ⟨_, rfl⟩
        clear hbv40
        rw [hb3] at kN zN ⊢
        obtain ⟨v4, hv4⟩ : ∃ v, (v3.alloc (.cells #[.int .i64 0, .slice none 0 0] 79)) = v := ⟨_, rfl⟩
        rw [hv4] at hbv4 NS kN ⊢
        repeat
          apply wpPlan_read (by first | rfl | (rw [hY]; rfl))
          · intro w2 hS2
            (try simp only [Keeps, Cells] at hS2)
            (try simp only [HasC, Cells] at hS2)
            go_simp
            with_reducible rfl
          simp only [Act.put, List.setIfInBounds_toArray, List.set_cons_zero, List.set_cons_succ]
        refine wpPlan_storeB 79 (.tmp 3) (.tmp 12) (by rfl) (by first | rfl | (rw [hY]; rfl)) b3 (by rfl) [.int .i64 mi, .slice ma ws.length mc] (by rfl) _ 79 kN info_X14 rfl (by simp [Value.oneCell']) ?_
        intro wS ES gS sS
        have hbS : Below W1.heap.size W1 wS := hbv4.trans (rowBelow gS zN hbv4.size)
        refine ⟨⟨hbS, Cells.step hbS hCS⟩, ?_⟩
        simp only [Act.put, List.setIfInBounds_toArray, List.set_cons_zero, List.set_cons_succ]
        exact wpPlan_done (fin _ _ _ _ _ wS rfl hbv4 NS zN ES (NS.apart14 kN (by decide) (by decide) gS) hbS)
      · skip
        have hbv30 : Below v2.heap.size v2 (v2.alloc (.cells #[.int .i64 0, .slice none 0 0] 79)) := (Below.refl _ _).alloc (Nat.le_refl _) _
        have hbv3 := below_trans hbv2 hbv30
        refine wpPlan_value (by first | rfl | (rw [hY]; rfl)) (by go_simp; first | with_reducible exact ⟨rfl, rfl⟩ | with_reducible rfl) ((show Below W1.heap.size W1 (v2.alloc (.cells #[.int .i64 0, .slice none 0 0] 79)) ∧ Cells (v2.alloc (.cells #[.int .i64 0, .slice none 0 0] 79)) [(⟨w.heap.size, 0, none⟩, .int .i64 kind), (⟨w.heap.size, 1, none⟩, .int .i64 bits), (⟨w.heap.size, 2, none⟩, .int .i64 limit), (⟨w.heap.size, 3, none⟩, .int .i64 rate), (⟨w.heap.size, 4, none⟩, .int .i64 first), (⟨w.heap.size, 5, none⟩, .int .i64 second)] from ⟨hbv3, Cells.step hbv3 hCS⟩)) ?_
        simp only [Act.put, List.setIfInBounds_toArray, List.set_cons_zero, List.set_cons_succ]
        have kN := Blk.new v2 [.int .i64 0, .slice none 0 0] 79
        have zN : W1.heap.size ≤ v2.heap.size := hbv2.size
        obtain ⟨b3, hb3⟩ : ∃ x, v2.heap.size = x := ⟨_, rfl⟩
        clear hbv30
        rw [hb3] at kN zN ⊢
        obtain ⟨v3, hv3⟩ : ∃ v, (v2.alloc (.cells #[.int .i64 0, .slice none 0 0] 79)) = v := ⟨_, rfl⟩
        rw [hv3] at hbv3 kN ⊢
        repeat
          apply wpPlan_read (by first | rfl | (rw [hY]; rfl))
          · intro w2 hS2
            (try simp only [Keeps, Cells] at hS2)
            (try simp only [HasC, Cells] at hS2)
            go_simp
            with_reducible rfl
          simp only [Act.put, List.setIfInBounds_toArray, List.set_cons_zero, List.set_cons_succ]
        apply wpPlan_call (by first | rfl | (rw [hY]; rfl))
        · go_simp
          with_reducible exact ⟨rfl, rfl⟩
        refine (HN.out _).mono ?_
        rintro e v4 ⟨VX, rfl, NS, hbv40⟩
        have hbv4 := below_trans hbv3 hbv40
        have kN := kN.step hbv40
        obtain ⟨ma, mc, rfl⟩ := NS.shape
        have NS : MixNew W1.heap.size mi ws _ v4 := NS.low (hbv3.size)
        clear hbv40
        refine ⟨_, rfl, ⟨hbv4, Cells.step hbv4 hCS⟩, ?_⟩
        simp only [Act.put, List.setIfInBounds_toArray, List.set_cons_zero, List.set_cons_succ]
        repeat
          apply wpPlan_read (by first | rfl | (rw [hY]; rfl))
          · intro w2 hS2
            (try simp only [Keeps, Cells] at hS2)
            (try simp only [HasC, Cells] at hS2)
            go_simp
            with_reducible rfl
          simp only [Act.put, List.setIfInBounds_toArray, List.set_cons_zero, List.set_cons_succ]
        refine wpPlan_storeB 79 (.tmp 3) (.tmp 12) (by rfl) (by first | rfl | (rw [hY]; rfl)) b3 (by rfl) [.int .i64 mi, .slice ma ws.length mc] (by rfl) _ 79 kN info_X14 rfl (by simp [Value.oneCell']) ?_
        intro wS ES gS sS
        have hbS : Below W1.heap.size W1 wS := hbv4.trans (rowBelow gS zN hbv4.size)
        refine ⟨⟨hbS, Cells.step hbS hCS⟩, ?_⟩
        simp only [Act.put, List.setIfInBounds_toArray, List.set_cons_zero, List.set_cons_succ]
        exact wpPlan_done (fin _ _ _ _ _ wS rfl hbv4 NS zN ES (NS.apart14 kN (by decide) (by decide) gS) hbS)
    · skip
      have hbv20 : Below v1.heap.size v1 (v1.alloc (.cells #[.int .i64 0, .slice none 0 0] 79)) := (Below.refl _ _).alloc (Nat.le_refl _) _
      have hbv2 := below_trans hbv1 hbv20
      refine wpPlan_value (by first | rfl | (rw [hY]; rfl)) (by go_simp; first | with_reducible exact ⟨rfl, rfl⟩ | with_reducible rfl) ((show Below W1.heap.size W1 (v1.alloc (.cells #[.int .i64 0, .slice none 0 0] 79)) ∧ Cells (v1.alloc (.cells #[.int .i64 0, .slice none 0 0] 79)) [(⟨w.heap.size, 0, none⟩, .int .i64 kind), (⟨w.heap.size, 1, none⟩, .int .i64 bits), (⟨w.heap.size, 2, none⟩, .int .i64 limit), (⟨w.heap.size, 3, none⟩, .int .i64 rate), (⟨w.heap.size, 4, none⟩, .int .i64 first), (⟨w.heap.size, 5, none⟩, .int .i64 second)] from ⟨hbv2, Cells.step hbv2 hCS⟩)) ?_
      simp only [Act.put, List.setIfInBounds_toArray, List.set_cons_zero, List.set_cons_succ]
      have kN := Blk.new v1 [.int .i64 0, .slice none 0 0] 79
      have zN : W1.heap.size ≤ v1.heap.size := hbv1.size
      obtain ⟨b3, hb3⟩ : ∃ x, v1.heap.size = x := ⟨_, rfl⟩
      clear hbv20
      rw [hb3] at kN zN ⊢
      obtain ⟨v2, hv2⟩ : ∃ v, (v1.alloc (.cells #[.int .i64 0, .slice none 0 0] 79)) = v := ⟨_, rfl⟩
      rw [hv2] at hbv2 kN ⊢
      repeat
        apply wpPlan_read (by first | rfl | (rw [hY]; rfl))
        · intro w2 hS2
          (try simp only [Keeps, Cells] at hS2)
          (try simp only [HasC, Cells] at hS2)
          go_simp
          with_reducible rfl
        simp only [Act.put, List.setIfInBounds_toArray, List.set_cons_zero, List.set_cons_succ]
      apply wpPlan_call (by first | rfl | (rw [hY]; rfl))
      · go_simp
        with_reducible exact ⟨rfl, rfl⟩
      refine (HS.out _).mono ?_
      rintro e v3 ⟨rfl, hbv30⟩
      have hbv3 := below_trans hbv2 hbv30
      have kN := kN.step hbv30
      clear hbv30
      refine ⟨_, rfl, ⟨hbv3, Cells.step hbv3 hCS⟩, ?_⟩
      simp only [Act.put, List.setIfInBounds_toArray, List.set_cons_zero, List.set_cons_succ]
      repeat
        apply wpPlan_read (by first | rfl | (rw [hY]; rfl))
        · intro w2 hS2
          (try simp only [Keeps, Cells] at hS2)
          (try simp only [HasC, Cells] at hS2)
          go_simp
          with_reducible rfl
        simp only [Act.put, List.setIfInBounds_toArray, List.set_cons_zero, List.set_cons_succ]
      apply wpPlan_call (by first | rfl | (rw [hY]; rfl))
      · go_simp
        with_reducible exact ⟨rfl, rfl⟩
      refine (HN.out _).mono ?_
      rintro e v4 ⟨VX, rfl, NS, hbv40⟩
      have hbv4 := below_trans hbv3 hbv40
      have kN := kN.step hbv40
      obtain ⟨ma, mc, rfl⟩ := NS.shape
      have NS : MixNew W1.heap.size mi ws _ v4 := NS.low (hbv3.size)
      clear hbv40
      refine ⟨_, rfl, ⟨hbv4, Cells.step hbv4 hCS⟩, ?_⟩
      simp only [Act.put, List.setIfInBounds_toArray, List.set_cons_zero, List.set_cons_succ]
      repeat
        apply wpPlan_read (by first | rfl | (rw [hY]; rfl))
        · intro w2 hS2
          (try simp only [Keeps, Cells] at hS2)
          (try simp only [HasC, Cells] at hS2)
          go_simp
          with_reducible rfl
        simp only [Act.put, List.setIfInBounds_toArray, List.set_cons_zero, List.set_cons_succ]
      refine wpPlan_storeB 79 (.tmp 3) (.tmp 12) (by rfl) (by first | rfl | (rw [hY]; rfl)) b3 (by rfl) [.int .i64 mi, .slice ma ws.length mc] (by rfl) _ 79 kN info_X14 rfl (by simp [Value.oneCell']) ?_
      intro wS ES gS sS
      have hbS : Below W1.heap.size W1 wS := hbv4.trans (rowBelow gS zN hbv4.size)
      refine ⟨⟨hbS, Cells.step hbS hCS⟩, ?_⟩
      simp only [Act.put, List.setIfInBounds_toArray, List.set_cons_zero, List.set_cons_succ]
      exact wpPlan_done (fin _ _ _ _ _ wS rfl hbv4 NS zN ES (NS.apart14 kN (by decide) (by decide) gS) hbS)
  · skip
    have hbv10 : Below v0.heap.size v0 (v0.alloc (.cells #[.int .i64 0, .slice none 0 0] 79)) := (Below.refl _ _).alloc (Nat.le_refl _) _
    have hbv1 := below_trans hbv0 hbv10
    refine wpPlan_value (by first | rfl | (rw [hY]; rfl)) (by go_simp; first | with_reducible exact ⟨rfl, rfl⟩ | with_reducible rfl) ((show Below W1.heap.size W1 (v0.alloc (.cells #[.int .i64 0, .slice none 0 0] 79)) ∧ Cells (v0.alloc (.cells #[.int .i64 0, .slice none 0 0] 79)) [(⟨w.heap.size, 0, none⟩, .int .i64 kind), (⟨w.heap.size, 1, none⟩, .int .i64 bits), (⟨w.heap.size, 2, none⟩, .int .i64 limit), (⟨w.heap.size, 3, none⟩, .int .i64 rate), (⟨w.heap.size, 4, none⟩, .int .i64 first), (⟨w.heap.size, 5, none⟩, .int .i64 second)] from ⟨hbv1, Cells.step hbv1 hCS⟩)) ?_
    simp only [Act.put, List.setIfInBounds_toArray, List.set_cons_zero, List.set_cons_succ]
    have kN := Blk.new v0 [.int .i64 0, .slice none 0 0] 79
    have zN : W1.heap.size ≤ v0.heap.size := hbv0.size
    obtain ⟨b3, hb3⟩ : ∃ x, v0.heap.size = x := ⟨_, rfl⟩
    clear hbv10
    rw [hb3] at kN zN ⊢
    obtain ⟨v1, hv1⟩ : ∃ v, (v0.alloc (.cells #[.int .i64 0, .slice none 0 0] 79)) = v := ⟨_, rfl⟩
    rw [hv1] at hbv1 kN ⊢
    repeat
      apply wpPlan_read (by first | rfl | (rw [hY]; rfl))
      · intro w2 hS2
        (try simp only [Keeps, Cells] at hS2)
        (try simp only [HasC, Cells] at hS2)
        go_simp
        with_reducible rfl
      simp only [Act.put, List.setIfInBounds_toArray, List.set_cons_zero, List.set_cons_succ]
    apply wpPlan_call (by first | rfl | (rw [hY]; rfl))
    · go_simp
      with_reducible exact ⟨rfl, rfl⟩
    refine (HI.out _).mono ?_
    rintro e v2 ⟨rfl, hbv20⟩
    have hbv2 := below_trans hbv1 hbv20
    have kN := kN.step hbv20
    clear hbv20
    refine ⟨_, rfl, ⟨hbv2, Cells.step hbv2 hCS⟩, ?_⟩
    simp only [Act.put, List.setIfInBounds_toArray, List.set_cons_zero, List.set_cons_succ]
    repeat
      apply wpPlan_read (by first | rfl | (rw [hY]; rfl))
      · intro w2 hS2
        (try simp only [Keeps, Cells] at hS2)
        (try simp only [HasC, Cells] at hS2)
        go_simp
        with_reducible rfl
      simp only [Act.put, List.setIfInBounds_toArray, List.set_cons_zero, List.set_cons_succ]
    apply wpPlan_call (by first | rfl | (rw [hY]; rfl))
    · go_simp
      with_reducible exact ⟨rfl, rfl⟩
    refine (HS.out _).mono ?_
    rintro e v3 ⟨rfl, hbv30⟩
    have hbv3 := below_trans hbv2 hbv30
    have kN := kN.step hbv30
    clear hbv30
    refine ⟨_, rfl, ⟨hbv3, Cells.step hbv3 hCS⟩, ?_⟩
    simp only [Act.put, List.setIfInBounds_toArray, List.set_cons_zero, List.set_cons_succ]
    repeat
      apply wpPlan_read (by first | rfl | (rw [hY]; rfl))
      · intro w2 hS2
        (try simp only [Keeps, Cells] at hS2)
        (try simp only [HasC, Cells] at hS2)
        go_simp
        with_reducible rfl
      simp only [Act.put, List.setIfInBounds_toArray, List.set_cons_zero, List.set_cons_succ]
    apply wpPlan_call (by first | rfl | (rw [hY]; rfl))
    · go_simp
      with_reducible exact ⟨rfl, rfl⟩
    refine (HN.out _).mono ?_
    rintro e v4 ⟨VX, rfl, NS, hbv40⟩
    have hbv4 := below_trans hbv3 hbv40
    have kN := kN.step hbv40
    obtain ⟨ma, mc, rfl⟩ := NS.shape
    have NS : MixNew W1.heap.size mi ws _ v4 := NS.low (hbv3.size)
    clear hbv40
    refine ⟨_, rfl, ⟨hbv4, Cells.step hbv4 hCS⟩, ?_⟩
    simp only [Act.put, List.setIfInBounds_toArray, List.set_cons_zero, List.set_cons_succ]
    repeat
      apply wpPlan_read (by first | rfl | (rw [hY]; rfl))
      · intro w2 hS2
        (try simp only [Keeps, Cells] at hS2)
        (try simp only [HasC, Cells] at hS2)
        go_simp
        with_reducible rfl
      simp only [Act.put, List.setIfInBounds_toArray, List.set_cons_zero, List.set_cons_succ]
    refine wpPlan_storeB 79 (.tmp 3) (.tmp 12) (by rfl) (by first | rfl | (rw [hY]; rfl)) b3 (by rfl) [.int .i64 mi, .slice ma ws.length mc] (by rfl) _ 79 kN info_X14 rfl (by simp [Value.oneCell']) ?_
    intro wS ES gS sS
    have hbS : Below W1.heap.size W1 wS := hbv4.trans (rowBelow gS zN hbv4.size)
    refine ⟨⟨hbS, Cells.step hbS hCS⟩, ?_⟩
    simp only [Act.put, List.setIfInBounds_toArray, List.set_cons_zero, List.set_cons_succ]
    exact wpPlan_done (fin _ _ _ _ _ wS rfl hbv4 NS zN ES (NS.apart14 kN (by decide) (by decide) gS) hbS)
end Go.Proofs.YtieeogndnhighaaGreat
set_option linter.unusedSimpArgs false
set_option linter.unusedVariables false
set_option linter.unusedSectionVars false
namespace Go.Proofs.YtieeogndnhighaaGreat
open Go.RowKit
theorem PIs.bareX {p : S14.P} {y : Lay} {w w' : World} {n : Int} {l : List (List Int)} {a : Option Addr} {cap : Nat} (h : PIs p y w) (hb : S14.bare { p with mi := 0, mw := [] } = true) (hm : MixIs n l (.agg #[.int .i64 n, .slice a l.length cap]) w') : PIs { p with mi := n, mw := l } { y with a3 := a, c3 := cap } w' := by
  obtain ⟨h1, h2, _, h4, h5, h6, h7⟩ := bare_lists hb
  have h1 : p.ctrs = [] := h1
  exact ⟨by show Rd w' y.a1 (Cts p.ctrs); rw [h1]; exact Rd.nil _ _, h.tab.nil14 h2, h.mch.nil14 h5 h6 h7, hm, h.apm.nil14 h4⟩
set_option maxRecDepth 100000 in
set_option maxHeartbeats 2000000 in
theorem mixed14_learn (c : S14.C) (N : S14.N) (L : NLay) (k g o : Nat) (p : S14.P) (y : Lay) (n f s : Nat) (bef : List Int) (bit : Int) (w : World) (hN : NIs N L w) (hc : N.comps[k]? = some c) (hp : N.parts[k]? = some p) (hy : L.ys[k]? = some y) (hx : k < N.ctxs.length) (pt : Nat) (hpt : N.part = (pt : Int)) (hpt2 : pt < 4294967296)
    (hn : c.bits = (n : Int)) (hn2 : n ≤ 16) (hf : c.first = (f : Int)) (hs : c.second = (s : Int)) (hfs : f ≤ s) (hsk : s < k) (hk16 : k ≤ 16) (hlen : bef.length = k) (hrd : Rd w (some ⟨g, o, none⟩) (Ints bef))
    (hu : S13.usable 16 p.mi p.mw (S14.index (N.ctxs.getD k 0) pt n : Nat) ((bef.drop f).take (s + 1 - f)) = 0) (hbit : 0 ≤ bit ∧ bit ≤ 1) (hrate : 1 ≤ c.rate ∧ c.rate ≤ 255) (hbare : S14.bare { p with mi := 0, mw := [] } = true) :
    Calls Tryz.prog 265 #[CV c, VV N L k (.slice (some ⟨g, o, none⟩) k k), .int .i64 bit] w fun e w' => ∃ y', e = .returned (.tuple #[PV { p with mi := p.mi, mw := S13.learnL p.mw (S14.index (N.ctxs.getD k 0) pt n) ((bef.drop f).take (s + 1 - f)) bit c.rate } y', .int .i64 0]) ∧
      PRob 0 w.heap.size { p with mi := p.mi, mw := S13.learnL p.mw (S14.index (N.ctxs.getD k 0) pt n) ((bef.drop f).take (s + 1 - f)) bit c.rate } y' w' ∧ Below w.heap.size w w' := by
  have hk : k < N.parts.length := (List.getElem?_eq_some_iff.1 hp).1
  have hP := hN.ps k p y hp hy
  have HPt := Lib.hid fun (W : World) (hW : Below w.heap.size w W) => part14_any N L k (.slice (some ⟨g, o, none⟩) k k) rfl W (hN.step hW) hk p y hp hy
  have HIx := Lib.hid fun (W : World) (hW : Below w.heap.size w W) => index14_any N L k (.slice (some ⟨g, o, none⟩) k k) W (hN.step hW) hx pt hpt hpt2 c hc n hn hn2
  have HSe := Lib.hid fun (W : World) => seen14_any c N L k g o f s W hf hs hfs hsk hk16
  obtain ⟨i, hi⟩ : ∃ i, S14.index (N.ctxs.getD k 0) pt n = i := ⟨_, rfl⟩
  rw [hi] at HIx hu ⊢
  have hsl : ((bef.drop f).take (s + 1 - f)).length = s + 1 - f := by rw [List.length_take, List.length_drop, hlen]; omega
  have HLn := Lib.hid fun (W : World) (hW : Below w.heap.size w W) => learn13_own p.mi p.mw y.a3 y.c3 i ((bef.drop f).take (s + 1 - f)) (some ⟨g, o + f, none⟩) (s + 1 - f) bit c.rate W (hP.mix.step hW) ((hrd.step hW).intsWindow f (s + 1 - f)) hu hbit hrate
  rw [hsl] at HLn
  obtain ⟨l, hl⟩ : ∃ l, S13.learnL p.mw i ((bef.drop f).take (s + 1 - f)) bit c.rate = l := ⟨_, rfl⟩
  rw [hl] at HLn ⊢
  have HPI := Lib.hid fun (a : Option Addr) (cap : Nat) (w' : World) (hm : MixIs p.mi l (.agg #[.int .i64 p.mi, .slice a l.length cap]) w') => hP.bareX hbare hm
  have HPV := Lib.hid fun (a : Option Addr) (cap : Nat) => (show PVals { p with mi := p.mi, mw := l } { y with a3 := a, c3 := cap } = splice (PVals p y) 13 [.int .i64 p.mi, .slice a l.length cap] from rfl)
  obtain ⟨mi, hmi⟩ : ∃ x, p.mi = x := ⟨_, rfl⟩
  obtain ⟨ml, hml⟩ : ∃ x, p.mw.length = x := ⟨_, rfl⟩
  have v13 : (PVals p y)[13]? = some (.int .i64 p.mi) := rfl
  have v14 : (PVals p y)[14]? = some (.slice y.a3 p.mw.length y.c3) := rfl
  have hVPl : (PVals p y).length = 16 := rfl
  have hVPo := PVals_one p y
  rw [hmi, hml] at HLn
  rw [hmi] at HPI HPV v13 ⊢
  rw [hml] at v14
  unfold PV at HPt
  unfold VV at HPt HIx HSe ⊢
  unfold PV
  obtain ⟨VP, hVP⟩ : ∃ v, PVals p y = v := ⟨_, rfl⟩
  rw [hVP] at HPt hVPl hVPo HPV v13 v14
  obtain ⟨m, hm⟩ : ∃ m, s + 1 - f = m := ⟨_, rfl⟩
  rw [hm] at HSe HLn
  have HVPl := Lib.hid hVPl
  have HVPo := Lib.hid hVPo
  obtain ⟨nc, hnc⟩ : ∃ n, N.comps.length = n := ⟨_, rfl⟩
  obtain ⟨np, hnp⟩ : ∃ n, N.parts.length = n := ⟨_, rfl⟩
  obtain ⟨nx, hnx⟩ : ∃ n, N.ctxs.length = n := ⟨_, rfl⟩
  rw [hnc, hnp, hnx, hpt] at HPt HIx HSe ⊢
  obtain ⟨W0, hW0, k1, k2, B0⟩ := boxesV14 w c 120 [.slice L.a1 nc L.c1, .slice L.a2 np L.c2, .slice L.a3 nx L.c3, .int .i64 (pt : Int), .int .i64 (k : Int), .slice (some ⟨g, o, none⟩) k k]
  have hW0s : W0.heap.size = w.heap.size + 2 := by rw [← hW0]; simp
  obtain ⟨W1, hW1⟩ : ∃ W, W0.alloc (.cells zP 83) = W := ⟨_, rfl⟩
  have b1 : Below W0.heap.size W0 W1 := by rw [← hW1]; exact (Below.refl _ _).alloc (Nat.le_refl _) _
  have kR : Blk W1 (w.heap.size + 2) (PVals S14.P0 Lay0) 83 := by rw [← hW1, ← hW0s]; exact blk_zP W0
  have k2 := k2.step b1
  have k1 := k1.step b1
  have B1 := below_trans B0 b1
  clear hnc hnp hnx hpt B0 hVP hVPl hVPo hm hml hmi hl hsl hi hP hN hc hp hy hk hx hn hf hs hfs hsk hk16 hlen hrd hu hbare hbit hrate
  obtain ⟨kind, bits, limit, rate, first, second⟩ := c
  unfold CV at HSe ⊢
  unfold Cells14 at HSe k1 hW0 ⊢
  simp only at HSe HLn k1 hW0 ⊢
  go_enter Tryz.func265, Tryz.ntmps265
  go_wp2_with (first
    | (rw [hW0])
    | (refine wpList_alloc 83 zP alloc_P (by rfl) (by rfl) ?_
       first | rw [hW1] | skip)
    | (refine wpList_loadB 104 (.tmp 4) (by rfl) (by rfl) (w.heap.size + 1) (by rfl) [.slice L.a1 nc L.c1, .slice L.a2 np L.c2, .slice L.a3 nx L.c3, .int .i64 (pt : Int), .int .i64 (k : Int), .slice (some ⟨g, o, none⟩) k k] 104 k2 _ Tryz.underlying104 rfl info_V14 ?_))
  refine (HPt.out _ B1).mono ?_
  rintro e w2 ⟨rfl, hb2⟩
  have B2 := below_trans B1 hb2
  have kR := kR.step hb2
  have k1 := k1.step hb2
  have k2 := k2.step hb2
  have hR2 := kR.lt
  obtain ⟨b8, hb8⟩ : ∃ x, w2.heap.size = x := ⟨_, rfl⟩
  obtain ⟨W3, hW3⟩ : ∃ W, w2.alloc (.cells zP 83) = W := ⟨_, rfl⟩
  have ba3 : Below w2.heap.size w2 W3 := by rw [← hW3]; exact (Below.refl _ _).alloc (Nat.le_refl _) _
  have K8 : Blk W3 b8 (PVals S14.P0 Lay0) 83 := by rw [← hW3, ← hb8]; exact blk_zP w2
  have kR := kR.step ba3
  have k1 := k1.step ba3
  have k2 := k2.step ba3
  have B3 := below_trans B2 ba3
  have hR8 : w.heap.size + 2 < b8 := by rw [← hb8]; exact hR2
  clear hW0 hW1 b1 B1 hb2 B2 ba3 HPt
  go_wp2_with (first
    | (refine wpList_alloc 83 zP alloc_P (by rfl) (by rfl) ?_
       rw [hW3, hb8])
    | (refine wpList_storeB 83 (.tmp 8) (.tmp 12) (by rfl) (by rfl) b8 (by rfl) VP (by rfl) _ 83 K8 (info_P.trans (congrArg some HVPl.out.symm)) HVPl.out.symm HVPo.out ?_
       intro s3 E3 g3 z3; clear z3))
  have kR := kR.keptRow g3 (by intro e; have := Option.some.inj e; omega)
  have k1 := k1.keptRow g3 (by intro e; have := Option.some.inj e; omega)
  have k2 := k2.keptRow g3 (by intro e; have := Option.some.inj e; omega)
  have B4 := B3.trans (rowBelow g3 (by omega) B3.size)
  have hE3 := E3.lt
  have hCS : Cells s3 [(⟨w.heap.size + 1, 0, none⟩, .slice L.a1 nc L.c1), (⟨w.heap.size + 1, 1, none⟩, .slice L.a2 np L.c2), (⟨w.heap.size + 1, 2, none⟩, .slice L.a3 nx L.c3), (⟨w.heap.size + 1, 3, none⟩, .int .i64 (pt : Int)), (⟨w.heap.size + 1, 4, none⟩, .int .i64 (k : Int)), (⟨w.heap.size + 1, 5, none⟩, .slice (some ⟨g, o, none⟩) k k), (⟨w.heap.size, 0, none⟩, .int .i64 kind), (⟨w.heap.size, 1, none⟩, .int .i64 bits), (⟨w.heap.size, 2, none⟩, .int .i64 limit), (⟨w.heap.size, 3, none⟩, .int .i64 rate), (⟨w.heap.size, 4, none⟩, .int .i64 first), (⟨w.heap.size, 5, none⟩, .int .i64 second), (⟨b8, 13, none⟩, .int .i64 mi), (⟨b8, 14, none⟩, .slice y.a3 ml y.c3)] := ⟨k2.cell 0, k2.cell 1, k2.cell 2, k2.cell 3, k2.cell 4, k2.cell 5, k1.cell 0, k1.cell 1, k1.cell 2, k1.cell 3, k1.cell 4, k1.cell 5, (E3.cell 13).trans v13, (E3.cell 14).trans v14, trivial⟩
  clear g3 B3 K8 k1 k2 hW3 v13 v14
  refine wp_region_plan 17 1 (.read 0 (.read 1 (.read 2 (.read 4 (.read 5 (.read 7 (.read 8 (.read 9 (.read 10 (.two (.one 3 (.two (.one 6 (.two (.one 11 (.read 12 (.read 13 (.read 14 (.one 15 (.one 16 .done)))))) (.one 15 (.one 11 (.read 12 (.read 13 (.read 14 (.one 16 .done)))))))) (.one 15 (.one 6 (.one 11 (.read 12 (.read 13 (.read 14 (.one 16 .done))))))))) (.one 15 (.one 3 (.one 6 (.one 11 (.read 12 (.read 13 (.read 14 (.one 16 .done)))))))))))))))))) _ _ o0P (fun K => Below s3.heap.size s3 K ∧ Cells K [(⟨w.heap.size + 1, 0, none⟩, .slice L.a1 nc L.c1), (⟨w.heap.size + 1, 1, none⟩, .slice L.a2 np L.c2), (⟨w.heap.size + 1, 2, none⟩, .slice L.a3 nx L.c3), (⟨w.heap.size + 1, 3, none⟩, .int .i64 (pt : Int)), (⟨w.heap.size + 1, 4, none⟩, .int .i64 (k : Int)), (⟨w.heap.size + 1, 5, none⟩, .slice (some ⟨g, o, none⟩) k k), (⟨w.heap.size, 0, none⟩, .int .i64 kind), (⟨w.heap.size, 1, none⟩, .int .i64 bits), (⟨w.heap.size, 2, none⟩, .int .i64 limit), (⟨w.heap.size, 3, none⟩, .int .i64 rate), (⟨w.heap.size, 4, none⟩, .int .i64 first), (⟨w.heap.size, 5, none⟩, .int .i64 second), (⟨b8, 13, none⟩, .int .i64 mi), (⟨b8, 14, none⟩, .slice y.a3 ml y.c3)]) (by kernel_rfl) (List.take_append_drop 17 _).symm (by kernel_rfl) (by kernel_rfl) (by kernel_rfl) (by kernel_rfl) (⟨(Below.refl _ _).drew, hCS⟩) (fun Y Q4 F4 hY hF => ?_)
  simp only [Plan.map, List.take_succ_cons, List.take_zero, List.drop_succ_cons, List.drop_zero, List.getD_cons_zero, List.getD_cons_succ]
  repeat
    apply wpPlan_read (by first | rfl | (rw [hY]; rfl))
    · intro w2 hS2
      (try simp only [Keeps, Cells] at hS2)
      (try simp only [HasC, Cells] at hS2)
      go_simp
      with_reducible rfl
    simp only [Act.put, List.setIfInBounds_toArray, List.set_cons_zero, List.set_cons_succ]
  have fin : ∀ (ma : Option Addr) (nl mc b9 : Nat) (wS : World), nl = l.length → s3.heap.size ≤ b9 → Blk wS b9 [.int .i64 mi, .slice ma nl mc] 79 → MixNew s3.heap.size mi l (.agg #[.int .i64 mi, .slice ma nl mc]) wS → Below s3.heap.size s3 wS → F4 { tmps := #[.agg #[.int .i64 kind, .int .i64 bits, .int .i64 limit, .int .i64 rate, .int .i64 first, .int .i64 second], .agg #[.slice L.a1 nc L.c1, .slice L.a2 np L.c2, .slice L.a3 nx L.c3, .int .i64 (pt : Int), .int .i64 (k : Int), .slice (some ⟨g, o, none⟩) k k], .int .i64 bit, .pointer (some ⟨w.heap.size, 0, none⟩), .pointer (some ⟨(w.heap.size + 1), 0, none⟩), undef, .pointer (some ⟨(w.heap.size + 2), 0, none⟩), .int .i64 0, .pointer (some ⟨b8, 0, none⟩), .pointer (some ⟨b9, 0, none⟩), undef, .agg #[.slice L.a1 nc L.c1, .slice L.a2 np L.c2, .slice L.a3 nx L.c3, .int .i64 (pt : Int), .int .i64 (k : Int), .slice (some ⟨g, o, none⟩) k k], .agg VP.toArray, .tuple #[.agg #[.int .i64 mi, .slice ma nl mc], .int .i64 0], .pointer (some ⟨b8, 13, none⟩), .agg #[.int .i64 mi, .slice y.a3 ml y.c3], .agg #[.slice L.a1 nc L.c1, .slice L.a2 np L.c2, .slice L.a3 nx L.c3, .int .i64 (pt : Int), .int .i64 (k : Int), .slice (some ⟨g, o, none⟩) k k], .int .i64 (i : Int), .agg #[.int .i64 kind, .int .i64 bits, .int .i64 limit, .int .i64 rate, .int .i64 first, .int .i64 second], .agg #[.slice L.a1 nc L.c1, .slice L.a2 np L.c2, .slice L.a3 nx L.c3, .int .i64 (pt : Int), .int .i64 (k : Int), .slice (some ⟨g, o, none⟩) k k], .slice (some ⟨g, o + f, none⟩) m m, .int .i64 bit, .pointer (some ⟨w.heap.size, 0, none⟩), .pointer (some ⟨w.heap.size, 3, none⟩), .int .i64 rate, .tuple #[.agg #[.int .i64 mi, .slice ma nl mc], .int .i64 0], .agg #[.int .i64 mi, .slice ma nl mc], .int .i64 0, undef, undef, undef, undef], defers := [] } wS := by
    intro ma nl mc b9 wS hnl zb9 ES hNS hbS
    refine hF _ _ (fun K hK => ?_)
    clear hF hY hCS
    have HK := Lib.hid hK
    clear hK
    go_wp2_with fail
    refine OnlyK.mk (HK.out _ _ ?_)
    subst hnl
    have E8 := E3.step hbS
    have kRS := kR.step hbS
    have BS := below_trans B4 hbS
    have hPV := HPV.out ma mc
    have HpV := Lib.hid hPV
    have HNS := Lib.hid hNS
    have hth : wS.there b8 13 (List.toArray ([.int .i64 mi, .slice ma l.length mc] : List Value)).size := E8.there14 (o := 13) (n := 2) (by rw [HVPl.out]; decide)
    clear hNS hPV hbS
    go_wp2_with (first
      | (refine wpList_loadB 79 (.tmp 9) (by rfl) (by rfl) b9 (by rfl) [.int .i64 mi, .slice ma l.length mc] 79 ES _ Tryz.underlying79 rfl info_X14 ?_)
      | (refine wpList_store_mid (by rfl) 79 (.tmp 29) (.tmp 28) (by rfl) b8 13 (List.toArray ([.int .i64 mi, .slice ma l.length mc] : List Value)) (by rfl) (by rfl) hth info_X14 (all_oneCell_toArray (by simp [Value.oneCell'])) ?_
         have E9 := E8.setCells [.int .i64 mi, .slice ma l.length mc] 13 (by rw [HVPl.out]; exact (by decide : 13 + 2 ≤ 16))
         rw [← HpV.out] at E9
         have kR9 := kRS.keptRow (grown_setCells14 b8 [.int .i64 mi, .slice ma l.length mc] 13 wS) (by intro e; have := Option.some.inj e; omega)
         obtain ⟨W8, hW8⟩ : ∃ W, wS.setCells b8 13 [.int .i64 mi, .slice ma l.length mc] = W := ⟨_, rfl⟩
         have G8 : wS.grownBy W8 (some b8) := by rw [← hW8]; exact grown_setCells14 b8 _ 13 wS
         rw [hW8] at E9 kR9
         have hW8' : wS.setCells b8 13 (List.toArray ([.int .i64 mi, .slice ma l.length mc] : List Value)).toList = W8 := hW8
         rw [hW8'])
      | (refine wpList_loadB 83 (.tmp 8) (by rfl) (by rfl) b8 (by rfl) (PVals { p with mi := mi, mw := l } { y with a3 := ma, c3 := mc }) 83 E9 _ Tryz.underlying83 rfl (info_P.trans rfl) ?_)
      | (refine wpList_storeB 83 (.tmp 6) (.tmp 30) (by rfl) (by rfl) (w.heap.size + 2) (by rfl) (PVals { p with mi := mi, mw := l } { y with a3 := ma, c3 := mc }) (by rfl) _ 83 kR9 (info_P.trans rfl) rfl (PVals_one _ _) ?_
         intro wL EL gL sL))
    have hL := run_loadVar_mid wL _ 0 _ _ _ EL.cells Tryz.underlying83 rfl (info_P.trans rfl)
    have hN8 := HNS.out.kepX (KepX.row G8 (fun b e => .inl (by have := Option.some.inj e; omega)))
    have hNL := hN8.kepX (KepX.row gL (fun b e => .inl (by have := Option.some.inj e; omega)))
    have B8 := BS.trans (rowBelow G8 (by omega) BS.size)
    refine bodyPost_ret (v := .tuple #[.agg (PVals { p with mi := mi, mw := l } { y with a3 := ma, c3 := mc }).toArray, .int .i64 0]) ?_ rfl ?_
    · exact results_cell2 (show Tryz.f265.results = #[.cell 6 83, .tmp 7] from rfl) (p := ⟨w.heap.size + 2, 0, none⟩) rfl rfl hL
    · exact ⟨{ y with a3 := ma, c3 := mc }, rfl, fun w' hk => HPI.out ma mc w' (hNL.kepX (hk.toX14.mono0 (by omega))).own.mix, B8.trans (rowBelow gL (by omega) B8.size)⟩
  have hbv0 : Below s3.heap.size s3 s3.drew := (Below.refl _ _).drew
  obtain ⟨v0, hv0⟩ : ∃ v, s3.drew = v := ⟨_, rfl⟩
  rw [hv0] at hbv0 ⊢
  refine wpPlan_two ?_ ?_
  · skip
    apply wpPlan_call (by first | rfl | (rw [hY]; rfl))
    · go_simp
      with_reducible exact ⟨rfl, rfl⟩
    refine (HIx.out _ (below_trans B4 hbv0)).mono ?_
    rintro e v1 ⟨rfl, hbv10⟩
    have hbv1 := below_trans hbv0 hbv10
    clear hbv10
    refine ⟨_, rfl, ⟨hbv1, Cells.step hbv1 hCS⟩, ?_⟩
    simp only [Act.put, List.setIfInBounds_toArray, List.set_cons_zero, List.set_cons_succ]
    repeat
      apply wpPlan_read (by first | rfl | (rw [hY]; rfl))
      · intro w2 hS2
        (try simp only [Keeps, Cells] at hS2)
        (try simp only [HasC, Cells] at hS2)
        go_simp
        with_reducible rfl
      simp only [Act.put, List.setIfInBounds_toArray, List.set_cons_zero, List.set_cons_succ]
    refine wpPlan_two ?_ ?_
    · skip
      apply wpPlan_call (by first | rfl | (rw [hY]; rfl))
      · go_simp
        with_reducible exact ⟨rfl, rfl⟩
      refine (HSe.out _).mono ?_
      rintro e v2 ⟨rfl, hbv20⟩
      have hbv2 := below_trans hbv1 hbv20
      clear hbv20
      refine ⟨_, rfl, ⟨hbv2, Cells.step hbv2 hCS⟩, ?_⟩
      simp only [Act.put, List.setIfInBounds_toArray, List.set_cons_zero, List.set_cons_succ]
      repeat
        apply wpPlan_read (by first | rfl | (rw [hY]; rfl))
        · intro w2 hS2
          (try simp only [Keeps, Cells] at hS2)
          (try simp only [HasC, Cells] at hS2)
          go_simp
          with_reducible rfl
        simp only [Act.put, List.setIfInBounds_toArray, List.set_cons_zero, List.set_cons_succ]
      refine wpPlan_two ?_ ?_
      · skip
        apply wpPlan_call (by first | rfl | (rw [hY]; rfl))
        · go_simp
          with_reducible exact ⟨rfl, rfl⟩
        refine (HLn.out _ (below_trans B4 hbv2)).mono ?_
        rintro e v3 ⟨VX, rfl, NS, hbv30⟩
        have hbv3 := below_trans hbv2 hbv30
        obtain ⟨ma, mc, rfl⟩ := NS.shape
        have NS := NS.low (hbv2.size)
        clear hbv30
        refine ⟨_, rfl, ⟨hbv3, Cells.step hbv3 hCS⟩, ?_⟩
        simp only [Act.put, List.setIfInBounds_toArray, List.set_cons_zero, List.set_cons_succ]
        repeat
          apply wpPlan_read (by first | rfl | (rw [hY]; rfl))
          · intro w2 hS2
            (try simp only [Keeps, Cells] at hS2)
            (try simp only [HasC, Cells] at hS2)
            go_simp
            with_reducible rfl
          simp only [Act.put, List.setIfInBounds_toArray, List.set_cons_zero, List.set_cons_succ]
        have hbv40 : Below v3.heap.size v3 (v3.alloc (.cells #[.int .i64 0, .slice none 0 0] 79)) := (Below.refl _ _).alloc (Nat.le_refl _) _
        have hbv4 := below_trans hbv3 hbv40
        refine wpPlan_value (by first | rfl | (rw [hY]; rfl)) (by go_simp; first | with_reducible exact ⟨rfl, rfl⟩ | with_reducible rfl) ((show Below s3.heap.size s3 (v3.alloc (.cells #[.int .i64 0, .slice none 0 0] 79)) ∧ Cells (v3.alloc (.cells #[.int .i64 0, .slice none 0 0] 79)) [(⟨w.heap.size + 1, 0, none⟩, .slice L.a1 nc L.c1), (⟨w.heap.size + 1, 1, none⟩, .slice L.a2 np L.c2), (⟨w.heap.size + 1, 2, none⟩, .slice L.a3 nx L.c3), (⟨w.heap.size + 1, 3, none⟩, .int .i64 (pt : Int)), (⟨w.heap.size + 1, 4, none⟩, .int .i64 (k : Int)), (⟨w.heap.size + 1, 5, none⟩, .slice (some ⟨g, o, none⟩) k k), (⟨w.heap.size, 0, none⟩, .int .i64 kind), (⟨w.heap.size, 1, none⟩, .int .i64 bits), (⟨w.heap.size, 2, none⟩, .int .i64 limit), (⟨w.heap.size, 3, none⟩, .int .i64 rate), (⟨w.heap.size, 4, none⟩, .int .i64 first), (⟨w.heap.size, 5, none⟩, .int .i64 second), (⟨b8, 13, none⟩, .int .i64 mi), (⟨b8, 14, none⟩, .slice y.a3 ml y.c3)] from ⟨hbv4, Cells.step hbv4 hCS⟩)) ?_
        simp only [Act.put, List.setIfInBounds_toArray, List.set_cons_zero, List.set_cons_succ]
        have NS := NS.kepX (KepX.below hbv40)
        have kN := Blk.new v3 [.int .i64 0, .slice none 0 0] 79
        have zN : s3.heap.size ≤ v3.heap.size := hbv3.size
        obtain ⟨b9, hb9⟩ : ∃ x, v3.heap.size = x := ⟨_, rfl⟩
        clear hbv40
        rw [hb9] at kN zN ⊢
        obtain ⟨v4, hv4⟩ : ∃ v, (v3.alloc (.cells #[.int .i64 0, .slice none 0 0] 79)) = v := ⟨_, rfl⟩
        rw [hv4] at hbv4 NS kN ⊢
        repeat
          apply wpPlan_read (by first | rfl | (rw [hY]; rfl))
          · intro w2 hS2
            (try simp only [Keeps, Cells] at hS2)
            (try simp only [HasC, Cells] at hS2)
            go_simp
            with_reducible rfl
          simp only [Act.put, List.setIfInBounds_toArray, List.set_cons_zero, List.set_cons_succ]
        refine wpPlan_storeB 79 (.tmp 9) (.tmp 26) (by rfl) (by first | rfl | (rw [hY]; rfl)) b9 (by rfl) [.int .i64 mi, .slice ma l.length mc] (by rfl) _ 79 kN info_X14 rfl (by simp [Value.oneCell']) ?_
        intro wS ES gS sS
        have hbS : Below s3.heap.size s3 wS := hbv4.trans (rowBelow gS zN hbv4.size)
        refine ⟨⟨hbS, Cells.step hbS hCS⟩, ?_⟩
        simp only [Act.put, List.setIfInBounds_toArray, List.set_cons_zero, List.set_cons_succ]
        exact wpPlan_done (fin _ _ _ _ wS rfl zN ES (NS.apart14 kN (by decide) (by decide) gS) hbS)
      · skip
        have hbv30 : Below v2.heap.size v2 (v2.alloc (.cells #[.int .i64 0, .slice none 0 0] 79)) := (Below.refl _ _).alloc (Nat.le_refl _) _
        have hbv3 := below_trans hbv2 hbv30
        refine wpPlan_value (by first | rfl | (rw [hY]; rfl)) (by go_simp; first | with_reducible exact ⟨rfl, rfl⟩ | with_reducible rfl) ((show Below s3.heap.size s3 (v2.alloc (.cells #[.int .i64 0, .slice none 0 0] 79)) ∧ Cells (v2.alloc (.cells #[.int .i64 0, .slice none 0 0] 79)) [(⟨w.heap.size + 1, 0, none⟩, .slice L.a1 nc L.c1), (⟨w.heap.size + 1, 1, none⟩, .slice L.a2 np L.c2), (⟨w.heap.size + 1, 2, none⟩, .slice L.a3 nx L.c3), (⟨w.heap.size + 1, 3, none⟩, .int .i64 (pt : Int)), (⟨w.heap.size + 1, 4, none⟩, .int .i64 (k : Int)), (⟨w.heap.size + 1, 5, none⟩, .slice (some ⟨g, o, none⟩) k k), (⟨w.heap.size, 0, none⟩, .int .i64 kind), (⟨w.heap.size, 1, none⟩, .int .i64 bits), (⟨w.heap.size, 2, none⟩, .int .i64 limit), (⟨w.heap.size, 3, none⟩, .int .i64 rate), (⟨w.heap.size, 4, none⟩, .int .i64 first), (⟨w.heap.size, 5, none⟩, .int .i64 second), (⟨b8, 13, none⟩, .int .i64 mi), (⟨b8, 14, none⟩, .slice y.a3 ml y.c3)] from ⟨hbv3, Cells.step hbv3 hCS⟩)) ?_
        simp only [Act.put, List.setIfInBounds_toArray, List.set_cons_zero, List.set_cons_succ]
        have kN := Blk.new v2 [.int .i64 0, .slice none 0 0] 79
        have zN : s3.heap.size ≤ v2.heap.size := hbv2.size
        obtain ⟨b9, hb9⟩ : ∃ x, v2.heap.size = x := ⟨_, rfl⟩
        clear hbv30
        rw [hb9] at kN zN ⊢
        obtain ⟨v3, hv3⟩ : ∃ v, (v2.alloc (.cells #[.int .i64 0, .slice none 0 0] 79)) = v := ⟨_, rfl⟩
        rw [hv3] at hbv3 kN ⊢
        repeat
          apply wpPlan_read (by first | rfl | (rw [hY]; rfl))
          · intro w2 hS2
            (try simp only [Keeps, Cells] at hS2)
            (try simp only [HasC, Cells] at hS2)
            go_simp
            with_reducible rfl
          simp only [Act.put, List.setIfInBounds_toArray, List.set_cons_zero, List.set_cons_succ]
        apply wpPlan_call (by first | rfl | (rw [hY]; rfl))
        · go_simp
          with_reducible exact ⟨rfl, rfl⟩
        refine (HLn.out _ (below_trans B4 hbv3)).mono ?_
        rintro e v4 ⟨VX, rfl, NS, hbv40⟩
        have hbv4 := below_trans hbv3 hbv40
        have kN := kN.step hbv40
        obtain ⟨ma, mc, rfl⟩ := NS.shape
        have NS := NS.low (hbv3.size)
        clear hbv40
        refine ⟨_, rfl, ⟨hbv4, Cells.step hbv4 hCS⟩, ?_⟩
        simp only [Act.put, List.setIfInBounds_toArray, List.set_cons_zero, List.set_cons_succ]
        repeat
          apply wpPlan_read (by first | rfl | (rw [hY]; rfl))
          · intro w2 hS2
            (try simp only [Keeps, Cells] at hS2)
            (try simp only [HasC, Cells] at hS2)
            go_simp
            with_reducible rfl
          simp only [Act.put, List.setIfInBounds_toArray, List.set_cons_zero, List.set_cons_succ]
        refine wpPlan_storeB 79 (.tmp 9) (.tmp 26) (by rfl) (by first | rfl | (rw [hY]; rfl)) b9 (by rfl) [.int .i64 mi, .slice ma l.length mc] (by rfl) _ 79 kN info_X14 rfl (by simp [Value.oneCell']) ?_
        intro wS ES gS sS
        have hbS : Below s3.heap.size s3 wS := hbv4.trans (rowBelow gS zN hbv4.size)
        refine ⟨⟨hbS, Cells.step hbS hCS⟩, ?_⟩
        simp only [Act.put, List.setIfInBounds_toArray, List.set_cons_zero, List.set_cons_succ]
        exact wpPlan_done (fin _ _ _ _ wS rfl zN ES (NS.apart14 kN (by decide) (by decide) gS) hbS)
    · skip
      have hbv20 : Below v1.heap.size v1 (v1.alloc (.cells #[.int .i64 0, .slice none 0 0] 79)) := (Below.refl _ _).alloc (Nat.le_refl _) _
      have hbv2 := below_trans hbv1 hbv20
      refine wpPlan_value (by first | rfl | (rw [hY]; rfl)) (by go_simp; first | with_reducible exact ⟨rfl, rfl⟩ | with_reducible rfl) ((show Below s3.heap.size s3 (v1.alloc (.cells #[.int .i64 0, .slice none 0 0] 79)) ∧ Cells (v1.alloc (.cells #[.int .i64 0, .slice none 0 0] 79)) [(⟨w.heap.size + 1, 0, none⟩, .slice L.a1 nc L.c1), (⟨w.heap.size + 1, 1, none⟩, .slice L.a2 np L.c2), (⟨w.heap.size + 1, 2, none⟩, .slice L.a3 nx L.c3), (⟨w.heap.size + 1, 3, none⟩, .int .i64 (pt : Int)), (⟨w.heap.size + 1, 4, none⟩, .int .i64 (k : Int)), (⟨w.heap.size + 1, 5, none⟩, .slice (some ⟨g, o, none⟩) k k), (⟨w.heap.size, 0, none⟩, .int .i64 kind), (⟨w.heap.size, 1, none⟩, .int .i64 bits), (⟨w.heap.size, 2, none⟩, .int .i64 limit), (⟨w.heap.size, 3, none⟩, .int .i64 rate), (⟨w.heap.size, 4, none⟩, .int .i64 first), (⟨w.heap.size, 5, none⟩, .int .i64 second), (⟨b8, 13, none⟩, .int .i64 mi), (⟨b8, 14, none⟩, .slice y.a3 ml y.c3)] from ⟨hbv2, Cells.step hbv2 hCS⟩)) ?_
      simp only [Act.put, List.setIfInBounds_toArray, List.set_cons_zero, List.set_cons_succ]
      have kN := Blk.new v1 [.int .i64 0, .slice none 0 0] 79
      have zN : s3.heap.size ≤ v1.heap.size := hbv1.size
      obtain ⟨b9, hb9⟩ : ∃ x, v1.heap.size = x := ⟨_, rfl⟩
      clear hbv20
      rw [hb9] at kN zN ⊢
      obtain ⟨v2, hv2⟩ : ∃ v, (v1.alloc (.cells #[.int .i64 0, .slice none 0 0] 79)) = v := ⟨_, rfl⟩
      rw [hv2] at hbv2 kN ⊢
      repeat
        apply wpPlan_read (by first | rfl | (rw [hY]; rfl))
        · intro w2 hS2
          (try simp only [Keeps, Cells] at hS2)
          (try simp only [HasC, Cells] at hS2)
          go_simp
          with_reducible rfl
        simp only [Act.put, List.setIfInBounds_toArray, List.set_cons_zero, List.set_cons_succ]
      apply wpPlan_call (by first | rfl | (rw [hY]; rfl))
      · go_simp
        with_reducible exact ⟨rfl, rfl⟩
      refine (HSe.out _).mono ?_
      rintro e v3 ⟨rfl, hbv30⟩
      have hbv3 := below_trans hbv2 hbv30
      have kN := kN.step hbv30
      clear hbv30
      refine ⟨_, rfl, ⟨hbv3, Cells.step hbv3 hCS⟩, ?_⟩
      simp only [Act.put, List.setIfInBounds_toArray, List.set_cons_zero, List.set_cons_succ]
      repeat
        apply wpPlan_read (by first | rfl | (rw [hY]; rfl))
        · intro w2 hS2
          (try simp only [Keeps, Cells] at hS2)
          (try simp only [HasC, Cells] at hS2)
          go_simp
          with_reducible rfl
        simp only [Act.put, List.setIfInBounds_toArray, List.set_cons_zero, List.set_cons_succ]
      apply wpPlan_call (by first | rfl | (rw [hY]; rfl))
      · go_simp
        with_reducible exact ⟨rfl, rfl⟩
      refine (HLn.out _ (below_trans B4 hbv3)).mono ?_
      rintro e v4 ⟨VX, rfl, NS, hbv40⟩
      have hbv4 := below_trans hbv3 hbv40
      have kN := kN.step hbv40
      obtain ⟨ma, mc, rfl⟩ := NS.shape
      have NS := NS.low (hbv3.size)
      clear hbv40
      refine ⟨_, rfl, ⟨hbv4, Cells.step hbv4 hCS⟩, ?_⟩
      simp only [Act.put, List.setIfInBounds_toArray, List.set_cons_zero, List.set_cons_succ]
      repeat
        apply wpPlan_read (by first | rfl | (rw [hY]; rfl))
        · intro w2 hS2
          (try simp only [Keeps, Cells] at hS2)
          (try simp only [HasC, Cells] at hS2)
          go_simp
          with_reducible rfl
        simp only [Act.put, List.setIfInBounds_toArray, List.set_cons_zero, List.set_cons_succ]
      refine wpPlan_storeB 79 (.tmp 9) (.tmp 26) (by rfl) (by first | rfl | (rw [hY]; rfl)) b9 (by rfl) [.int .i64 mi, .slice ma l.length mc] (by rfl) _ 79 kN info_X14 rfl (by simp [Value.oneCell']) ?_
      intro wS ES gS sS
      have hbS : Below s3.heap.size s3 wS := hbv4.trans (rowBelow gS zN hbv4.size)
      refine ⟨⟨hbS, Cells.step hbS hCS⟩, ?_⟩
      simp only [Act.put, List.setIfInBounds_toArray, List.set_cons_zero, List.set_cons_succ]
      exact wpPlan_done (fin _ _ _ _ wS rfl zN ES (NS.apart14 kN (by decide) (by decide) gS) hbS)
  · skip
    have hbv10 : Below v0.heap.size v0 (v0.alloc (.cells #[.int .i64 0, .slice none 0 0] 79)) := (Below.refl _ _).alloc (Nat.le_refl _) _
    have hbv1 := below_trans hbv0 hbv10
    refine wpPlan_value (by first | rfl | (rw [hY]; rfl)) (by go_simp; first | with_reducible exact ⟨rfl, rfl⟩ | with_reducible rfl) ((show Below s3.heap.size s3 (v0.alloc (.cells #[.int .i64 0, .slice none 0 0] 79)) ∧ Cells (v0.alloc (.cells #[.int .i64 0, .slice none 0 0] 79)) [(⟨w.heap.size + 1, 0, none⟩, .slice L.a1 nc L.c1), (⟨w.heap.size + 1, 1, none⟩, .slice L.a2 np L.c2), (⟨w.heap.size + 1, 2, none⟩, .slice L.a3 nx L.c3), (⟨w.heap.size + 1, 3, none⟩, .int .i64 (pt : Int)), (⟨w.heap.size + 1, 4, none⟩, .int .i64 (k : Int)), (⟨w.heap.size + 1, 5, none⟩, .slice (some ⟨g, o, none⟩) k k), (⟨w.heap.size, 0, none⟩, .int .i64 kind), (⟨w.heap.size, 1, none⟩, .int .i64 bits), (⟨w.heap.size, 2, none⟩, .int .i64 limit), (⟨w.heap.size, 3, none⟩, .int .i64 rate), (⟨w.heap.size, 4, none⟩, .int .i64 first), (⟨w.heap.size, 5, none⟩, .int .i64 second), (⟨b8, 13, none⟩, .int .i64 mi), (⟨b8, 14, none⟩, .slice y.a3 ml y.c3)] from ⟨hbv1, Cells.step hbv1 hCS⟩)) ?_
    simp only [Act.put, List.setIfInBounds_toArray, List.set_cons_zero, List.set_cons_succ]
    have kN := Blk.new v0 [.int .i64 0, .slice none 0 0] 79
    have zN : s3.heap.size ≤ v0.heap.size := hbv0.size
    obtain ⟨b9, hb9⟩ : ∃ x, v0.heap.size = x := ⟨_, rfl⟩
    clear hbv10
    rw [hb9] at kN zN ⊢
    obtain ⟨v1, hv1⟩ : ∃ v, (v0.alloc (.cells #[.int .i64 0, .slice none 0 0] 79)) = v := ⟨_, rfl⟩
    rw [hv1] at hbv1 kN ⊢
    repeat
      apply wpPlan_read (by first | rfl | (rw [hY]; rfl))
      · intro w2 hS2
        (try simp only [Keeps, Cells] at hS2)
        (try simp only [HasC, Cells] at hS2)
        go_simp
        with_reducible rfl
      simp only [Act.put, List.setIfInBounds_toArray, List.set_cons_zero, List.set_cons_succ]
    apply wpPlan_call (by first | rfl | (rw [hY]; rfl))
    · go_simp
      with_reducible exact ⟨rfl, rfl⟩
    refine (HIx.out _ (below_trans B4 hbv1)).mono ?_
    rintro e v2 ⟨rfl, hbv20⟩
    have hbv2 := below_trans hbv1 hbv20
    have kN := kN.step hbv20
    clear hbv20
    refine ⟨_, rfl, ⟨hbv2, Cells.step hbv2 hCS⟩, ?_⟩
    simp only [Act.put, List.setIfInBounds_toArray, List.set_cons_zero, List.set_cons_succ]
    repeat
      apply wpPlan_read (by first | rfl | (rw [hY]; rfl))
      · intro w2 hS2
        (try simp only [Keeps, Cells] at hS2)
        (try simp only [HasC, Cells] at hS2)
        go_simp
        with_reducible rfl
      simp only [Act.put, List.setIfInBounds_toArray, List.set_cons_zero, List.set_cons_succ]
    apply wpPlan_call (by first | rfl | (rw [hY]; rfl))
    · go_simp
      with_reducible exact ⟨rfl, rfl⟩
    refine (HSe.out _).mono ?_
    rintro e v3 ⟨rfl, hbv30⟩
    have hbv3 := below_trans hbv2 hbv30
    have kN := kN.step hbv30
    clear hbv30
    refine ⟨_, rfl, ⟨hbv3, Cells.step hbv3 hCS⟩, ?_⟩
    simp only [Act.put, List.setIfInBounds_toArray, List.set_cons_zero, List.set_cons_succ]
    repeat
      apply wpPlan_read (by first | rfl | (rw [hY]; rfl))
      · intro w2 hS2
        (try simp only [Keeps, Cells] at hS2)
        (try simp only [HasC, Cells] at hS2)
        go_simp
        with_reducible rfl
      simp only [Act.put, List.setIfInBounds_toArray, List.set_cons_zero, List.set_cons_succ]
    apply wpPlan_call (by first | rfl | (rw [hY]; rfl))
    · go_simp
      with_reducible exact ⟨rfl, rfl⟩
    refine (HLn.out _ (below_trans B4 hbv3)).mono ?_
    rintro e v4 ⟨VX, rfl, NS, hbv40⟩
    have hbv4 := below_trans hbv3 hbv40
    have kN := kN.step hbv40
    obtain ⟨ma, mc, rfl⟩ := NS.shape
    have NS := NS.low (hbv3.size)
    clear hbv40
    refine ⟨_, rfl, ⟨hbv4, Cells.step hbv4 hCS⟩, ?_⟩
    simp only [Act.put, List.setIfInBounds_toArray, List.set_cons_zero, List.set_cons_succ]
    repeat
      apply wpPlan_read (by first | rfl | (rw [hY]; rfl))
      · intro w2 hS2
        (try simp only [Keeps, Cells] at hS2)
        (try simp only [HasC, Cells] at hS2)
        go_simp
        with_reducible rfl
      simp only [Act.put, List.setIfInBounds_toArray, List.set_cons_zero, List.set_cons_succ]
    refine wpPlan_storeB 79 (.tmp 9) (.tmp 26) (by rfl) (by first | rfl | (rw [hY]; rfl)) b9 (by rfl) [.int .i64 mi, .slice ma l.length mc] (by rfl) _ 79 kN info_X14 rfl (by simp [Value.oneCell']) ?_
    intro wS ES gS sS
    have hbS : Below s3.heap.size s3 wS := hbv4.trans (rowBelow gS zN hbv4.size)
    refine ⟨⟨hbS, Cells.step hbS hCS⟩, ?_⟩
    simp only [Act.put, List.setIfInBounds_toArray, List.set_cons_zero, List.set_cons_succ]
    exact wpPlan_done (fin _ _ _ _ wS rfl zN ES (NS.apart14 kN (by decide) (by decide) gS) hbS)
end Go.Proofs.YtieeogndnhighaaGreat
set_option linter.unusedSimpArgs false
set_option linter.unusedVariables false
set_option linter.unusedSectionVars false
namespace Go.Proofs.YtieeogndnhighaaGreat
open Go.RowKit
def kcs (x y u : Int) : List S14.C := [⟨0, 0, x, 0, 0, 0⟩, ⟨0, 0, y, 0, 0, 0⟩, ⟨4, 0, u, 0, 0, 1⟩, ⟨0, 0, x, 0, 0, 0⟩, ⟨5, 0, 0, 5, 3, 3⟩]
def pX (v : Int) : S14.P := { S14.P0 with mi := 1, mw := [[v]] }
def kN (x y u v p : Int) : S14.N := ⟨kcs x y u, [S14.P0, S14.P0, S14.P0, S14.P0, pX v], List.replicate 16 0, p⟩
structure KOk (x y u v p : Int) : Prop where
  x : 1 ≤ x ∧ x ≤ 4095
  y : 1 ≤ y ∧ y ≤ 4095
  u : 0 ≤ u ∧ u ≤ 256
  v : -1048576 ≤ v ∧ v ≤ 1048576
  p : 1 ≤ p ∧ p ≤ 255
theorem kcs_check {x y u v p : Int} (h : KOk x y u v p) : S14.check (kcs x y u) = 0 := by
  obtain ⟨⟨h1, h2⟩, ⟨h3, h4⟩, ⟨h5, h6⟩, _, _⟩ := h
  simp [S14.check, S14.allOk, kcs, List.range, List.range.loop, S14.ok, S14.okConst, S14.okAverage, S14.okMix, S14.only, S14.has, h1, h2, h3, h4, h5, h6]
theorem kc_mix {v : Int} (h : -1048576 ≤ v ∧ v ≤ 1048576) : S13.check 16 1 [[v]] = 0 := by
  have : S13.heavy v = false := by unfold S13.heavy; simp; omega
  simp [S13.check, S13.rows, this]
theorem kN_net {x y u v p : Int} (h : KOk x y u v p) : S14.checkNet (kN x y u v p) = 0 :=
  S14.checkNet_of (kcs_check h) rfl rfl h.p (fun k c q h1 h2 => by
    match k, h1, h2 with
    | 0, h1, h2 => cases h1; cases h2; rfl
    | 1, h1, h2 => cases h1; cases h2; rfl
    | 2, h1, h2 => cases h1; cases h2; rfl
    | 3, h1, h2 => cases h1; cases h2; rfl
    | 4, h1, h2 =>
      cases h1; cases h2
      have hm := kc_mix h.v
      show (S14.bare S14.P0 && true && true && decide (S13.check 16 1 [[v]] = 0)) = true
      rw [hm]; rfl
    | k + 5, h1, _ => cases h1)
/-- Its outputs. -/
def kO (x y u v : Int) : List Int := [S06.stretch x, S06.stretch y, S14.avg ⟨4, 0, u, 0, 0, 1⟩ [S06.stretch x, S06.stretch y], S06.stretch x, S13.mixR 1 [[v]] 0 [S06.stretch x]]
theorem kN_at (x y u v p : Int) (hp : 1 ≤ p ∧ p ≤ 255) : S14.at_ (kN x y u v p) 4 ⟨5, 0, 0, 5, 3, 3⟩ = 0 := by
  have h := S14.index_lt 0 p.toNat (bits := 0) (by omega)
  show S14.index 0 p.toNat 0 = 0
  omega
theorem kN_outs {x y u v p : Int} (hp : 1 ≤ p ∧ p ≤ 255) : S14.outs (S14.outA (kN x y u v p)) 5 = kO x y u v := by
  have h4 : S14.outA (kN x y u v p) 4 [S06.stretch x, S06.stretch y, S14.avg ⟨4, 0, u, 0, 0, 1⟩ [S06.stretch x, S06.stretch y], S06.stretch x] = S13.mixR 1 [[v]] 0 [S06.stretch x] := by
    have := kN_at x y u v p hp
    show S13.mixR 1 [[v]] ((S14.at_ (kN x y u v p) 4 ⟨5, 0, 0, 5, 3, 3⟩ : Nat) : Int) [S06.stretch x] = _
    rw [this]; rfl
  show [S06.stretch x, S06.stretch y, S14.avg ⟨4, 0, u, 0, 0, 1⟩ [S06.stretch x, S06.stretch y], S06.stretch x, S14.outA (kN x y u v p) 4 [S06.stretch x, S06.stretch y, S14.avg ⟨4, 0, u, 0, 0, 1⟩ [S06.stretch x, S06.stretch y], S06.stretch x]] = _
  rw [h4]; rfl
def kG (v' : Int) (k : Nat) : S14.P := if k = 4 then pX v' else S14.P0
def kF (c : S14.C) : S14.P := if c.kind = 5 then pX 65536 else S14.P0
end Go.Proofs.YtieeogndnhighaaGreat
set_option linter.unusedSimpArgs false
set_option linter.unusedVariables false
set_option linter.unusedSectionVars false
namespace Go.Proofs.YtieeogndnhighaaGreat
open Go.RowKit
theorem kcs_fresh (x y u : Int) : FreshHolds (kcs x y u) kF := fun k c hc hok W => by
  match k, hc with
  | 0, hc =>
    cases hc
    exact (constant14_fresh _ W).mono fun e w' h => ⟨Lay0, h.1, PRob.zero _ _ _, h.2⟩
  | 1, hc =>
    cases hc
    exact (constant14_fresh _ W).mono fun e w' h => ⟨Lay0, h.1, PRob.zero _ _ _, h.2⟩
  | 2, hc =>
    cases hc
    exact (average14_fresh _ W).mono fun e w' h => ⟨Lay0, h.1, PRob.zero _ _ _, h.2⟩
  | 3, hc =>
    cases hc
    exact (constant14_fresh _ W).mono fun e w' h => ⟨Lay0, h.1, PRob.zero _ _ _, h.2⟩
  | 4, hc =>
    cases hc
    exact mixed14_fresh ⟨5, 0, 0, 5, 3, 3⟩ 0 1 1 (by decide) rfl rfl (by decide) rfl (by decide) W
  | k + 5, hc => cases hc
theorem kcs_few (x y u : Int) (c : S14.C) (hc : c ∈ kcs x y u) : c.kind = 0 ∨ c.kind = 4 ∨ c.kind = 5 := by
  simp only [kcs, List.mem_cons, List.not_mem_nil, or_false] at hc
  rcases hc with rfl | rfl | rfl | rfl | rfl <;> simp
theorem kN_open (w : World) (x y u v p : Int) : OpenHolds w (kN x y u v p) (kN x y u v p) := openHolds_plain w _ (by show 5 ≤ 16; decide) (fun c hc => by
  have hc : c ∈ kcs x y u := hc
  simp only [kcs, List.mem_cons, List.not_mem_nil, or_false] at hc
  rcases hc with rfl | rfl | rfl | rfl | rfl <;> simp)
theorem new_kN {x y u : Int} (h : KOk x y u 65536 1) (a : Option Addr) (cap : Nat) (w : World) (hrd : Rd w a (Cs14 (kcs x y u))) : Calls Tryz.prog 15 #[.slice a 5 cap] w fun e w' => ∃ VS, e = .returned (.tuple #[.agg VS.toArray, .int .i64 0]) ∧ NetIs (kN x y u 65536 1) VS w' ∧ Below w.heap.size w w' :=
  (new14_good (kcs x y u) kF (kN x y u 65536 1) a cap w hrd (kcs_check h) (kcs_fresh x y u) (kN_open w x y u 65536 1)).mono fun e w' ⟨L, h1, h2, h3⟩ => ⟨_, h1, ⟨L, rfl, h2⟩, h3⟩
theorem outs_kN {x y u v p : Int} (h : KOk x y u v p) (VS : List Value) (w : World) (hV : NetIs (kN x y u v p) VS w) : Calls Tryz.prog 20 #[.agg VS.toArray] w fun e w' => ∃ a cap, e = .returned (.tuple #[.slice a 5 cap, .int .i64 0]) ∧ 5 ≤ cap ∧ Rd w' a (Ints (kO x y u v)) ∧ Below w.heap.size w w' := by
  obtain ⟨L, rfl, hN⟩ := hV
  refine (outputsP14_good (kN x y u v p) L (S14.outA (kN x y u v p)) w hN (right_few _ L w hN (kcs_few x y u)) (kN_net h) (out_few _ L w hN (kcs_few x y u) (kN_net h))).mono fun e w' ⟨a, cap, h1, h2, _, h4, h3⟩ => ⟨a, cap, h1, h4, ?_, h3⟩
  have e2 := kN_outs (x := x) (y := y) (u := u) (v := v) h.p
  rw [← e2]; exact h2
def kV (x v bit : Int) : Int := S13.lw (4096 * bit - S06.squash (S13.mix [v] [S06.stretch x])) 5 v (S06.stretch x)
theorem KOk.learn {x y u v p bit : Int} (h : KOk x y u v p) (hb : bit = 0 ∨ bit = 1) : KOk x y u (kV x v bit) (S14.next p bit) where
  x := h.x
  y := h.y
  u := h.u
  v := by unfold kV S13.lw; omega
  p := by
    have := h.p
    unfold S14.next
    split
    · omega
    · rcases hb with rfl | rfl <;> omega
theorem kN_usable {x y u v p : Int} (h : KOk x y u v p) : S13.usable 16 1 [[v]] 0 [S06.stretch x] = 0 := by
  have hm := kc_mix h.v
  have hs := S06.stretch_bounds x
  have : S13.strong (S06.stretch x) = false := by unfold S13.strong; simp; omega
  simp [S13.usable, hm, this]
theorem learnF_kN {x y u v p bit : Int} (h : KOk x y u v p) (hb : bit = 0 ∨ bit = 1) (L : NLay) (w : World) (hN : NIs (kN x y u v p) L w) : LearnFresh (kN x y u v p) L w (S14.outA (kN x y u v p)) (kG (kV x v bit)) bit := fun k c hc a W hW hrd => by
  have hNW := hN.step hW
  obtain ⟨q, yy, hp, hy, hP, hk1, hk2, hok, hr, hp1, hp2⟩ := sees14 hN (kN_net h) hc
  match k, hc, hp, hy, hk1, hk2, hrd with
  | 0, hc, hp, hy, hk1, hk2, hrd =>
    cases hc
    cases hp
    exact (constant14_learn (kN x y u v p) L 0 _ _ rfl bit W hNW hk1 _ yy rfl hy).mono fun e w' h => ⟨yy, h.1, fun w2 _ => hP.bare14 rfl, h.2⟩
  | 1, hc, hp, hy, hk1, hk2, hrd =>
    cases hc
    cases hp
    exact (constant14_learn (kN x y u v p) L 1 _ _ rfl bit W hNW hk1 _ yy rfl hy).mono fun e w' h => ⟨yy, h.1, fun w2 _ => hP.bare14 rfl, h.2⟩
  | 2, hc, hp, hy, hk1, hk2, hrd =>
    cases hc
    cases hp
    exact (average14_learn (kN x y u v p) L 2 _ _ rfl bit W hNW hk1 _ yy rfl hy).mono fun e w' h => ⟨yy, h.1, fun w2 _ => hP.bare14 rfl, h.2⟩
  | 3, hc, hp, hy, hk1, hk2, hrd =>
    cases hc
    cases hp
    exact (constant14_learn (kN x y u v p) L 3 _ _ rfl bit W hNW hk1 _ yy rfl hy).mono fun e w' h => ⟨yy, h.1, fun w2 _ => hP.bare14 rfl, h.2⟩
  | 4, hc, hp, hy, hk1, hk2, hrd =>
    cases hc
    cases hp
    obtain ⟨g, o, rfl, _⟩ := hrd (fun e => by have h1 := congrArg List.length e; rw [Ints_length, S14.outs_length, List.length_nil] at h1; omega)
    have hpt := int_nat14 (b := p) (by have := h.p; omega)
    have hat : S14.index ((kN x y u v p).ctxs.getD 4 0) p.toNat 0 = 0 := kN_at x y u v p h.p
    have hbef : (((S14.outs (S14.outA (kN x y u v p)) 4).drop 3).take (3 + 1 - 3)) = [S06.stretch x] := rfl
    have H := mixed14_learn ⟨5, 0, 0, 5, 3, 3⟩ (kN x y u v p) L 4 g o (pX v) yy 0 3 3 (S14.outs (S14.outA (kN x y u v p)) 4) bit W hNW rfl rfl hy hk2 p.toNat hpt (by have := h.p; omega) rfl (by decide) rfl rfl (by decide) (by decide) (by decide) rfl hrd
      (by rw [hat, hbef]; exact kN_usable h) (by rcases hb with rfl | rfl <;> decide) (by decide) rfl
    rw [hat, hbef] at H
    exact H
  | k + 5, hc, _, _, _, _, _ => cases hc
theorem learn_kN {x y u v p bit : Int} (h : KOk x y u v p) (hb : bit = 0 ∨ bit = 1) (VS : List Value) (w : World) (hV : NetIs (kN x y u v p) VS w) : Calls Tryz.prog 25 #[.agg VS.toArray, .int .i64 bit] w fun e w' =>
    ∃ VS', e = .returned (.tuple #[.agg VS'.toArray, .int .i64 0]) ∧ (∀ W, KepX (fun k => k < w.heap.size) w' W → NetIs (kN x y u (kV x v bit) (S14.next p bit)) VS' W) ∧ Below w.heap.size w w' := by
  obtain ⟨L, rfl, hN⟩ := hV
  have e : (⟨(kN x y u v p).comps, S14.parts1 (kG (kV x v bit)) (kN x y u v p).parts (kN x y u v p).comps.length, (kN x y u v p).ctxs, S14.next (kN x y u v p).part bit⟩ : S14.N) = kN x y u (kV x v bit) (S14.next p bit) := rfl
  exact (learn14_fresh (kN x y u v p) (kN x y u (kV x v bit) (S14.next p bit)) L (S14.outA (kN x y u v p)) (kG (kV x v bit)) bit w hN (right_few _ L w hN (kcs_few x y u)) (kN_net h) (out_few _ L w hN (kcs_few x y u) (kN_net h)) hb
    (learnF_kN h hb L w hN) (fun _ => by rw [e]; exact kN_open w _ _ _ _ _) (fun _ => e.symm)).mono fun e w' ⟨L', h1, h2, h3⟩ => ⟨_, h1, fun W hW => ⟨L', rfl, h2 W hW⟩, h3⟩
end Go.Proofs.YtieeogndnhighaaGreat
set_option linter.unusedSimpArgs false
set_option linter.unusedVariables false
set_option linter.unusedSectionVars false
namespace Go.Proofs.YtieeogndnhighaaGreat
open Go.RowKit
/-- The outputs of the law's network. -/
theorem kO_new {x y u : Int} (hx : 1 ≤ x ∧ x ≤ 4095) : kO x y u 65536 = [S06.stretch x, S06.stretch y, S14.avg ⟨4, 0, u, 0, 0, 1⟩ [S06.stretch x, S06.stretch y], S06.stretch x, S06.stretch x] := by
  have hs := S06.stretch_bounds x
  have hm : S13.mixR 1 [[65536]] 0 [S06.stretch x] = S06.stretch x := by
    have hu := kN_usable (x := x) (y := 1) (u := 0) (v := 65536) (p := 1) ⟨hx, by decide, by decide, by decide, by decide⟩
    unfold S13.mixR
    rw [if_pos hu]
    show S06.clip (S06.round (65536 * S06.stretch x + 0) 65536) = S06.stretch x
    have hr : S06.round (65536 * S06.stretch x + 0) 65536 = S06.stretch x := by
      unfold S06.round
      split <;> omega
    rw [hr]
    exact S06.clip_in hs.1 hs.2
  unfold kO
  rw [hm]
theorem kA_between (s t u : Int) (hu : 0 ≤ u ∧ u ≤ 256) (hs : -3071 ≤ s ∧ s ≤ 3071) (ht : -3071 ≤ t ∧ t ≤ 3071) : min s t ≤ S14.avg ⟨4, 0, u, 0, 0, 1⟩ [s, t] ∧ S14.avg ⟨4, 0, u, 0, 0, 1⟩ [s, t] ≤ max s t ∧ (u = 256 → S14.avg ⟨4, 0, u, 0, 0, 1⟩ [s, t] = s) ∧ (u = 0 → S14.avg ⟨4, 0, u, 0, 0, 1⟩ [s, t] = t) := by
  show min s t ≤ S06.round (s * u + t * (256 - u)) 256 ∧ S06.round (s * u + t * (256 - u)) 256 ≤ max s t ∧ (u = 256 → S06.round (s * u + t * (256 - u)) 256 = s) ∧ (u = 0 → S06.round (s * u + t * (256 - u)) 256 = t)
  have hr : ∀ z : Int, S06.round (256 * z) 256 = z := fun z => by unfold S06.round; split <;> omega
  have h1 : 256 * min s t ≤ s * u + t * (256 - u) := by
    have a1 : min s t * u ≤ s * u := Int.mul_le_mul_of_nonneg_right (by omega) hu.1
    have a2 : min s t * (256 - u) ≤ t * (256 - u) := Int.mul_le_mul_of_nonneg_right (by omega) (by omega)
    have a3 : min s t * u + min s t * (256 - u) = 256 * min s t := by rw [← Int.mul_add]; rw [show u + (256 - u) = 256 by omega, Int.mul_comm]
    omega
  have h2 : s * u + t * (256 - u) ≤ 256 * max s t := by
    have a1 : s * u ≤ max s t * u := Int.mul_le_mul_of_nonneg_right (by omega) hu.1
    have a2 : t * (256 - u) ≤ max s t * (256 - u) := Int.mul_le_mul_of_nonneg_right (by omega) (by omega)
    have a3 : max s t * u + max s t * (256 - u) = 256 * max s t := by rw [← Int.mul_add]; rw [show u + (256 - u) = 256 by omega, Int.mul_comm]
    omega
  have m1 := S06.round_mono (d := 256) (by decide) h1
  have m2 := S06.round_mono (d := 256) (by decide) h2
  rw [hr] at m1 m2
  refine ⟨m1, m2, fun e => ?_, fun e => ?_⟩
  · subst e; rw [show s * 256 + t * (256 - 256) = 256 * s by omega]; exact hr s
  · subst e; rw [show s * 0 + t * (256 - 0) = 256 * t by omega]; exact hr t
theorem rd_kcs (x y u : Int) (w : World) : Rd (w.alloc (.cells #[.int .i64 0, .int .i64 0, .int .i64 x, .int .i64 0, .int .i64 0, .int .i64 0, .int .i64 0, .int .i64 0, .int .i64 y, .int .i64 0, .int .i64 0, .int .i64 0, .int .i64 4, .int .i64 0, .int .i64 u, .int .i64 0, .int .i64 0, .int .i64 1, .int .i64 0, .int .i64 0, .int .i64 x, .int .i64 0, .int .i64 0, .int .i64 0, .int .i64 5, .int .i64 0, .int .i64 0, .int .i64 5, .int .i64 3, .int .i64 3] 54)) (some ⟨w.heap.size, 0, none⟩) (Cs14 (kcs x y u)) := Rd.new w [.int .i64 0, .int .i64 0, .int .i64 x, .int .i64 0, .int .i64 0, .int .i64 0, .int .i64 0, .int .i64 0, .int .i64 y, .int .i64 0, .int .i64 0, .int .i64 0, .int .i64 4, .int .i64 0, .int .i64 u, .int .i64 0, .int .i64 0, .int .i64 1, .int .i64 0, .int .i64 0, .int .i64 x, .int .i64 0, .int .i64 0, .int .i64 0, .int .i64 5, .int .i64 0, .int .i64 0, .int .i64 5, .int .i64 3, .int .i64 3] _
set_option maxRecDepth 100000 in
set_option maxHeartbeats 8000000 in
theorem networkConstants_any (a b q : Nat) (w : World) (ha : a < 65536) (hb : b < 65536) (hq : q < 65536) :
    Calls Tryz.prog 6 #[.int .u16 (a : Int), .int .u16 (b : Int), .int .u16 (q : Int)] w fun e w' => e = .returned (.bool true) ∧ Below w.heap.size w w' := by
  have HA := Lib.hid fun W => awake14_any W
  obtain ⟨x, hx⟩ : ∃ x : Int, 1 + (a : Int) % 4095 = x := ⟨_, rfl⟩
  obtain ⟨y, hy⟩ : ∃ x : Int, 1 + (b : Int) % 4095 = x := ⟨_, rfl⟩
  obtain ⟨u, hu⟩ : ∃ x : Int, (q : Int) % 257 = x := ⟨_, rfl⟩
  obtain ⟨t, ht⟩ : ∃ x : Int, (a : Int) % 2 = x := ⟨_, rfl⟩
  have hx1 : 1 ≤ x ∧ x ≤ 4095 := by omega
  have hy1 : 1 ≤ y ∧ y ≤ 4095 := by omega
  have hu1 : 0 ≤ u ∧ u ≤ 256 := by omega
  have Ht := Lib.hid (show t = 0 ∨ t = 1 by omega)
  have ok1 := Lib.hid (⟨hx1, hy1, hu1, by decide, by decide⟩ : KOk x y u 65536 1)
  go_enter Tryz.func6, Tryz.ntmps6
  go_wp2_with fail
  rw [hu]
  refine (new_kN ok1.out _ _ _ (rd_kcs x y u w)).mono ?_
  rintro e w2 ⟨V1, rfl, N1, hb2⟩
  have B2 : Below w.heap.size w w2 := below_trans ((Below.refl _ _).alloc (Nat.le_refl _) _) hb2
  obtain ⟨b1, eb1⟩ : ∃ b, w2.heap.size = b := ⟨_, rfl⟩
  obtain ⟨a1, ea1⟩ : ∃ W, w2.alloc (.cells #[.slice none 0 0, .slice none 0 0, .slice none 0 0, .int .i64 0] 26) = W := ⟨_, rfl⟩
  have F1 : Blk a1 b1 [.slice none 0 0, .slice none 0 0, .slice none 0 0, .int .i64 0] 26 := by rw [← ea1, ← eb1]; exact Blk.new w2 _ _
  have ba1 : Below w2.heap.size w2 a1 := by rw [← ea1]; exact (Below.refl _ _).alloc (Nat.le_refl _) _
  have hb1w : w.heap.size ≤ b1 := by rw [← eb1]; exact B2.size
  have hb1e : w2.heap.size ≤ b1 := by omega
  have B2a := below_trans B2 ba1
  have V1l := Lib.hid N1.len
  have V1o := Lib.hid N1.one
  have HN1 := Lib.hid N1
  have Hba := Lib.hid ba1
  have Hbe := Lib.hid hb1e
  clear hb2 B2 N1 hx hy hb1e
  go_wp2_with (first
      | (rw [ea1, eb1])
      | (rw [ea1])
      | (refine wpList_storeB 26 (.tmp 11) (.tmp 42) (by rfl) (by rfl) b1 (by rfl) V1 (by rfl) _ 26 F1 (info_N.trans (congrArg some V1l.out.symm)) V1l.out.symm V1o.out ?_
         intro s1 E1 g1 z1; clear z1)
      | (refine wpList_loadB 26 (.tmp 11) (by rfl) (by rfl) b1 (by rfl) V1 26 E1 _ Tryz.underlying26 rfl (info_N.trans (congrArg some V1l.out.symm)) ?_))
  have N1 := HN1.out.step (Hba.out.trans (rowBelow g1 Hbe.out Hba.out.size))
  have BS1 := B2a.trans (rowBelow g1 hb1w B2a.size)
  clear F1 ba1 B2a g1 HN1 Hba Hbe V1o
  refine (outs_kN ok1.out V1 _ N1).mono ?_
  rintro e w3 ⟨q1, c1, rfl, hc1, r1, hb3⟩
  have N3 := N1.step hb3
  have E3 := E1.step hb3
  have B3 := below_trans BS1 hb3
  rw [kO_new hx1] at r1
  clear N1 E1 BS1 hb3 ea1 eb1
  go_wp2_with (first
      | (refine wpList_loadB 26 (.tmp 11) (by rfl) (by rfl) b1 (by rfl) V1 26 E3 _ Tryz.underlying26 rfl (info_N.trans (congrArg some V1l.out.symm)) ?_))
  try rw [ht]
  refine (learn_kN ok1.out Ht.out V1 _ N3).mono ?_
  rintro e w4 ⟨V2, rfl, N4, hb4⟩
  have E4 := E3.step hb4
  have B4 := below_trans B3 hb4
  have r4 := r1.step hb4
  have hE3 := E3.lt
  have V2l := Lib.hid (N4 _ (KepX.refl _ _)).len
  have V2o := Lib.hid (N4 _ (KepX.refl _ _)).one
  have HN4 := Lib.hid N4
  have Hcs := Lib.hid N3.cs
  have Hlt := Lib.hid hE3
  clear N3 N4 E3 hb4 B3 r1 hE3
  go_wp2_with (first
      | (refine wpList_storeB 26 (.tmp 11) (.tmp 55) (by rfl) (by rfl) b1 (by rfl) V2 (by rfl) _ 26 E4 (info_N.trans (congrArg some V2l.out.symm)) (V1l.out.trans V2l.out.symm) V2o.out ?_
         intro s5 E5 g5 z5; clear z5)
      | (refine wpList_loadB 26 (.tmp 11) (by rfl) (by rfl) b1 (by rfl) V2 26 E5 _ Tryz.underlying26 rfl (info_N.trans (congrArg some V2l.out.symm)) ?_))
  have N5 := HN4.out s5 (KepX.row g5 (fun k e => .inl (by have := Option.some.inj e; have := Hlt.out; omega)))
  have B5 := B4.trans (rowBelow g5 hb1w B4.size)
  have r5 := r4.keepNet E4 Hcs.out g5 (.inr (.inl (by simp [Ints])))
  clear E4 g5 B4 r4 HN4 Hlt V1l V2o
  refine (outs_kN (ok1.out.learn Ht.out) V2 _ N5).mono ?_
  rintro e w6 ⟨q2, c2, rfl, hc2, r2, hb6⟩
  have B6 := below_trans B5 hb6
  have r1 := r5.step hb6
  clear N5 E5 hb6 B5 r5 V2l
  obtain ⟨s, hs⟩ : ∃ z, S06.stretch x = z := ⟨_, rfl⟩
  obtain ⟨t2, ht2⟩ : ∃ z, S06.stretch y = z := ⟨_, rfl⟩
  have hbt := kA_between s t2 u hu1 (hs ▸ S06.stretch_bounds x) (ht2 ▸ S06.stretch_bounds y)
  obtain ⟨A, hA⟩ : ∃ z, S14.avg ⟨4, 0, u, 0, 0, 1⟩ [s, t2] = z := ⟨_, rfl⟩
  rw [hA] at hbt
  unfold kO at r2
  rw [hs, ht2, hA] at r1 r2
  obtain ⟨M, hM⟩ : ∃ z, S13.mixR 1 [[kV x 65536 t]] 0 [s] = z := ⟨_, rfl⟩
  rw [hM] at r2
  clear hM hA hs ht2
  have d1 : decide (A < min s t2) = false := decide_eq_false (by omega)
  have d2 : decide (max s t2 < A) = false := decide_eq_false (by omega)
  have dS : (u = 256 → A = s) ∧ (u = 0 → A = t2) := hbt.2.2
  clear hbt
  obtain ⟨g1, o1, rfl, hcs1⟩ := r1 (by simp [Ints])
  obtain ⟨g2, o2, rfl, hcs2⟩ := r2 (by simp [Ints])
  have e0 : w6.cell? ⟨g1, o1, none⟩ = some (.int .i64 s) := hcs1 0 _ rfl
  have e1 : w6.cell? ⟨g1, o1 + 1, none⟩ = some (.int .i64 t2) := hcs1 1 _ rfl
  have e2 : w6.cell? ⟨g1, o1 + 2, none⟩ = some (.int .i64 A) := hcs1 2 _ rfl
  have e3 : w6.cell? ⟨g1, o1 + 3, none⟩ = some (.int .i64 s) := hcs1 3 _ rfl
  have e4 : w6.cell? ⟨g1, o1 + 4, none⟩ = some (.int .i64 s) := hcs1 4 _ rfl
  have hEq := Lib.hid fun (W : World) (hW : Below w6.heap.size w6 W) => (show Calls Tryz.prog 24 #[.slice (some ⟨g1, o1, none⟩) 4 c1, .slice (some ⟨g2, o2, none⟩) 4 c2] W fun e w' => e = .returned (.bool true) ∧ Below W.heap.size W w' from equalInts_eq [s, t2, A, s] _ _ c1 c2 W (by simp) ((r1.take14 4).step hW) ((r2.take14 4).step hW))
  have hCS : Cells w6 [(⟨g1, o1, none⟩, .int .i64 s), (⟨g1, o1 + 1, none⟩, .int .i64 t2), (⟨g1, o1 + 2, none⟩, .int .i64 A), (⟨g1, o1 + 3, none⟩, .int .i64 s), (⟨g1, o1 + 4, none⟩, .int .i64 s)] := ⟨e0, e1, e2, e3, e4, trivial⟩
  have Hok := Lib.hid ok1
  have Hx := Lib.hid hx1
  have k1 : 4 ≤ c1 := by omega
  have k2 : 4 ≤ c2 := by omega
  have k1z : (4 : Int) ≤ (c1 : Int) := by omega
  have k2z : (4 : Int) ≤ (c2 : Int) := by omega
  clear r1 r2 hcs1 hcs2 ok1 hx1 hy1 ht
  go_wp2_with fail
  refine wp_region_seq 50 0 [(true, [true, true, true, true]), (false, [false, false, false, false, true]), (true, [false, false, false, false, false, true, true, true, true, true, true, true, true, true, true, true, true, true, true, true, true, true, true, true, true, true, true, true, true, true, true, true, true, true, true, true, true, true, true, true, true, true, true, true, true, true, true, true, true, true])] _ _ (Keeps w6 [(⟨g1, o1, none⟩, .int .i64 s), (⟨g1, o1 + 1, none⟩, .int .i64 t2), (⟨g1, o1 + 2, none⟩, .int .i64 A), (⟨g1, o1 + 3, none⟩, .int .i64 s), (⟨g1, o1 + 4, none⟩, .int .i64 s)]) (by kernel_rfl) (List.take_append_drop 50 _).symm (by kernel_rfl) (by kernel_rfl) (by kernel_rfl) (by kernel_rfl) (Keeps.start hCS) (fun Y Q4 F4 hY hF => ?_)
  simp only [phased, List.flatMap_cons, List.flatMap_nil, List.take_succ_cons, List.take_zero, List.drop_succ_cons, List.drop_zero, sel_true, sel_false, sel_nil, List.map_cons, List.map_nil, List.cons_append, List.nil_append, List.append_nil]
  repeat
    apply wpSeq_read (by first | rfl | (rw [hY]; rfl))
    · intro w2 hS2
      (try simp only [Keeps, Cells] at hS2)
      (try simp only [HasC, Cells] at hS2)
      go_simp
      with_reducible rfl
    simp only [Act.put, List.setIfInBounds_toArray, List.set_cons_zero, List.set_cons_succ]
  apply wpSeq_call (by first | rfl | (rw [hY]; rfl))
  · go_simp
    with_reducible exact ⟨rfl, rfl⟩
  refine (hEq.out _ (Keeps.start hCS).1).mono ?_
  rintro e w7 ⟨rfl, hb7⟩
  have hk7 := (Keeps.start hCS).step hb7
  refine ⟨_, rfl, hk7, ?_⟩
  simp only [Act.put, List.setIfInBounds_toArray, List.set_cons_zero, List.set_cons_succ]
  repeat
    apply wpSeq_read (by first | rfl | (rw [hY]; rfl))
    · intro w2 hS2
      (try simp only [Keeps, Cells] at hS2)
      (try simp only [HasC, Cells] at hS2)
      go_simp
      with_reducible rfl
    simp only [Act.put, List.setIfInBounds_toArray, List.set_cons_zero, List.set_cons_succ]
  refine wpSeq_done (hF.out _ _ (fun K hK => ?_))
  clear hF hY
  have B7 := below_trans B6 hk7.1
  have hC7 : Cells w7 [(⟨g1, o1, none⟩, .int .i64 s), (⟨g1, o1 + 1, none⟩, .int .i64 t2), (⟨g1, o1 + 2, none⟩, .int .i64 A), (⟨g1, o1 + 3, none⟩, .int .i64 s), (⟨g1, o1 + 4, none⟩, .int .i64 s)] := Cells.step hk7.1 hCS
  refine OnlyK.mk (hK.out _ _ ?_)
  clear hK hk7 hCS d1 d2 hEq Hok Hx k1 k2 k1z k2z e0 e1 e2 e3 e4 B6 hb7
  by_cases h256 : u = 256
  · obtain rfl : A = s := dS.1 h256
    subst h256
    clear dS
    go_wp2_with fail
    refine wp_region_seq 27 1 [(true, [true, true, true, true, true, true, true, true, true, true, true, true, true, true, true, true, true, true, true, true, true, true, true, true, true]), (false, [false, false, false, false, false, false, false, false, false, false, false, false, false, false, false, false, false, false, false, false, false, false, false, false, false, true]), (true, [false, false, false, false, false, false, false, false, false, false, false, false, false, false, false, false, false, false, false, false, false, false, false, false, false, false, true])] _ _ (Keeps w7 [(⟨g1, o1, none⟩, .int .i64 A), (⟨g1, o1 + 1, none⟩, .int .i64 t2), (⟨g1, o1 + 2, none⟩, .int .i64 A), (⟨g1, o1 + 3, none⟩, .int .i64 A), (⟨g1, o1 + 4, none⟩, .int .i64 A)]) (by kernel_rfl) (List.take_append_drop 27 _).symm (by kernel_rfl) (by kernel_rfl) (by kernel_rfl) (by kernel_rfl) (Keeps.start hC7) (fun Y Q4 F4 hY hF => ?_)
    simp only [phased, List.flatMap_cons, List.flatMap_nil, List.take_succ_cons, List.take_zero, List.drop_succ_cons, List.drop_zero, sel_true, sel_false, sel_nil, List.map_cons, List.map_nil, List.cons_append, List.nil_append, List.append_nil]
    repeat
      apply wpSeq_read (by first | rfl | (rw [hY]; rfl))
      · intro w2 hS2
        (try simp only [Keeps, Cells] at hS2)
        (try simp only [HasC, Cells] at hS2)
        go_simp
        with_reducible rfl
      simp only [Act.put, List.setIfInBounds_toArray, List.set_cons_zero, List.set_cons_succ]
    repeat
      first
        | (apply wpSeq_unread (by rw [hY]; rfl)
           simp only [Act.put, List.setIfInBounds_toArray, List.set_cons_zero, List.set_cons_succ])
        | (refine wpSeq_skip (by rw [hY]; rfl) ((Keeps.start hC7)) ?_
           simp only [Act.put, List.setIfInBounds_toArray, List.set_cons_zero, List.set_cons_succ])
    repeat
      apply wpSeq_read (by first | rfl | (rw [hY]; rfl))
      · intro w2 hS2
        (try simp only [Keeps, Cells] at hS2)
        (try simp only [HasC, Cells] at hS2)
        go_simp
        with_reducible rfl
      simp only [Act.put, List.setIfInBounds_toArray, List.set_cons_zero, List.set_cons_succ]
    repeat
      first
        | (apply wpSeq_unread (by rw [hY]; rfl)
           simp only [Act.put, List.setIfInBounds_toArray, List.set_cons_zero, List.set_cons_succ])
        | (refine wpSeq_skip (by rw [hY]; rfl) ((Keeps.start hC7)) ?_
           simp only [Act.put, List.setIfInBounds_toArray, List.set_cons_zero, List.set_cons_succ])
    repeat
      apply wpSeq_read (by first | rfl | (rw [hY]; rfl))
      · intro w2 hS2
        (try simp only [Keeps, Cells] at hS2)
        (try simp only [HasC, Cells] at hS2)
        go_simp
        with_reducible rfl
      simp only [Act.put, List.setIfInBounds_toArray, List.set_cons_zero, List.set_cons_succ]
    repeat
      first
        | (apply wpSeq_unread (by rw [hY]; rfl)
           simp only [Act.put, List.setIfInBounds_toArray, List.set_cons_zero, List.set_cons_succ])
        | (refine wpSeq_skip (by rw [hY]; rfl) ((Keeps.start hC7)) ?_
           simp only [Act.put, List.setIfInBounds_toArray, List.set_cons_zero, List.set_cons_succ])
    repeat
      apply wpSeq_read (by first | rfl | (rw [hY]; rfl))
      · intro w2 hS2
        (try simp only [Keeps, Cells] at hS2)
        (try simp only [HasC, Cells] at hS2)
        go_simp
        with_reducible rfl
      simp only [Act.put, List.setIfInBounds_toArray, List.set_cons_zero, List.set_cons_succ]
    apply wpSeq_call (by first | rfl | (rw [hY]; rfl))
    · go_simp
      with_reducible exact ⟨rfl, rfl⟩
    refine (HA.out _).mono ?_
    rintro e w8 ⟨rfl, hb8⟩
    have hk8 := (Keeps.start hC7).step hb8
    refine ⟨_, rfl, hk8, ?_⟩
    simp only [Act.put, List.setIfInBounds_toArray, List.set_cons_zero, List.set_cons_succ]
    repeat
      apply wpSeq_read (by first | rfl | (rw [hY]; rfl))
      · intro w2 hS2
        (try simp only [Keeps, Cells] at hS2)
        (try simp only [HasC, Cells] at hS2)
        go_simp
        with_reducible rfl
      simp only [Act.put, List.setIfInBounds_toArray, List.set_cons_zero, List.set_cons_succ]
    refine wpSeq_done (hF.out _ _ (fun K2 hK2 => ?_))
    clear hF hY
    have B8 := below_trans B7 hk8.1
    go_wp2_with fail
    refine OnlyK.mk (hK2.out _ _ ?_)
    clear hK2
    go_wp2
    go_returns
    exact ⟨rfl, B8⟩
  · have n256 : (u != 256) = true := by simpa using h256
    by_cases h0 : u = 0
    · obtain rfl : A = t2 := dS.2 h0
      subst h0
      clear dS h256
      go_wp2_with fail
      refine wp_region_seq 27 1 [(true, [true, true, true, true, true, true, true, true, true, true, true, true, true, true, true, true, true, true, true, true, true, true, true, true, true]), (false, [false, false, false, false, false, false, false, false, false, false, false, false, false, false, false, false, false, false, false, false, false, false, false, false, false, true]), (true, [false, false, false, false, false, false, false, false, false, false, false, false, false, false, false, false, false, false, false, false, false, false, false, false, false, false, true])] _ _ (Keeps w7 [(⟨g1, o1, none⟩, .int .i64 s), (⟨g1, o1 + 1, none⟩, .int .i64 A), (⟨g1, o1 + 2, none⟩, .int .i64 A), (⟨g1, o1 + 3, none⟩, .int .i64 s), (⟨g1, o1 + 4, none⟩, .int .i64 s)]) (by kernel_rfl) (List.take_append_drop 27 _).symm (by kernel_rfl) (by kernel_rfl) (by kernel_rfl) (by kernel_rfl) (Keeps.start hC7) (fun Y Q4 F4 hY hF => ?_)
      simp only [phased, List.flatMap_cons, List.flatMap_nil, List.take_succ_cons, List.take_zero, List.drop_succ_cons, List.drop_zero, sel_true, sel_false, sel_nil, List.map_cons, List.map_nil, List.cons_append, List.nil_append, List.append_nil]
      repeat
        apply wpSeq_read (by first | rfl | (rw [hY]; rfl))
        · intro w2 hS2
          (try simp only [Keeps, Cells] at hS2)
          (try simp only [HasC, Cells] at hS2)
          go_simp
          with_reducible rfl
        simp only [Act.put, List.setIfInBounds_toArray, List.set_cons_zero, List.set_cons_succ]
      repeat
        first
          | (apply wpSeq_unread (by rw [hY]; rfl)
             simp only [Act.put, List.setIfInBounds_toArray, List.set_cons_zero, List.set_cons_succ])
          | (refine wpSeq_skip (by rw [hY]; rfl) ((Keeps.start hC7)) ?_
             simp only [Act.put, List.setIfInBounds_toArray, List.set_cons_zero, List.set_cons_succ])
      repeat
        apply wpSeq_read (by first | rfl | (rw [hY]; rfl))
        · intro w2 hS2
          (try simp only [Keeps, Cells] at hS2)
          (try simp only [HasC, Cells] at hS2)
          go_simp
          with_reducible rfl
        simp only [Act.put, List.setIfInBounds_toArray, List.set_cons_zero, List.set_cons_succ]
      repeat
        first
          | (apply wpSeq_unread (by rw [hY]; rfl)
             simp only [Act.put, List.setIfInBounds_toArray, List.set_cons_zero, List.set_cons_succ])
          | (refine wpSeq_skip (by rw [hY]; rfl) ((Keeps.start hC7)) ?_
             simp only [Act.put, List.setIfInBounds_toArray, List.set_cons_zero, List.set_cons_succ])
      repeat
        apply wpSeq_read (by first | rfl | (rw [hY]; rfl))
        · intro w2 hS2
          (try simp only [Keeps, Cells] at hS2)
          (try simp only [HasC, Cells] at hS2)
          go_simp
          with_reducible rfl
        simp only [Act.put, List.setIfInBounds_toArray, List.set_cons_zero, List.set_cons_succ]
      repeat
        first
          | (apply wpSeq_unread (by rw [hY]; rfl)
             simp only [Act.put, List.setIfInBounds_toArray, List.set_cons_zero, List.set_cons_succ])
          | (refine wpSeq_skip (by rw [hY]; rfl) ((Keeps.start hC7)) ?_
             simp only [Act.put, List.setIfInBounds_toArray, List.set_cons_zero, List.set_cons_succ])
      repeat
        apply wpSeq_read (by first | rfl | (rw [hY]; rfl))
        · intro w2 hS2
          (try simp only [Keeps, Cells] at hS2)
          (try simp only [HasC, Cells] at hS2)
          go_simp
          with_reducible rfl
        simp only [Act.put, List.setIfInBounds_toArray, List.set_cons_zero, List.set_cons_succ]
      apply wpSeq_call (by first | rfl | (rw [hY]; rfl))
      · go_simp
        with_reducible exact ⟨rfl, rfl⟩
      refine (HA.out _).mono ?_
      rintro e w8 ⟨rfl, hb8⟩
      have hk8 := (Keeps.start hC7).step hb8
      refine ⟨_, rfl, hk8, ?_⟩
      simp only [Act.put, List.setIfInBounds_toArray, List.set_cons_zero, List.set_cons_succ]
      repeat
        apply wpSeq_read (by first | rfl | (rw [hY]; rfl))
        · intro w2 hS2
          (try simp only [Keeps, Cells] at hS2)
          (try simp only [HasC, Cells] at hS2)
          go_simp
          with_reducible rfl
        simp only [Act.put, List.setIfInBounds_toArray, List.set_cons_zero, List.set_cons_succ]
      refine wpSeq_done (hF.out _ _ (fun K2 hK2 => ?_))
      clear hF hY
      have B8 := below_trans B7 hk8.1
      go_wp2_with fail
      refine OnlyK.mk (hK2.out _ _ ?_)
      clear hK2
      go_wp2
      go_returns
      exact ⟨rfl, B8⟩
    · have n0 : (u != 0) = true := by simpa using h0
      clear dS h256 h0
      go_wp2_with fail
      refine wp_region_seq 27 1 [(true, [true, true, true, true, true, true, true, true, true, true, true, true, true, true, true, true, true, true, true, true, true, true, true, true, true]), (false, [false, false, false, false, false, false, false, false, false, false, false, false, false, false, false, false, false, false, false, false, false, false, false, false, false, true]), (true, [false, false, false, false, false, false, false, false, false, false, false, false, false, false, false, false, false, false, false, false, false, false, false, false, false, false, true])] _ _ (Keeps w7 [(⟨g1, o1, none⟩, .int .i64 s), (⟨g1, o1 + 1, none⟩, .int .i64 t2), (⟨g1, o1 + 2, none⟩, .int .i64 A), (⟨g1, o1 + 3, none⟩, .int .i64 s), (⟨g1, o1 + 4, none⟩, .int .i64 s)]) (by kernel_rfl) (List.take_append_drop 27 _).symm (by kernel_rfl) (by kernel_rfl) (by kernel_rfl) (by kernel_rfl) (Keeps.start hC7) (fun Y Q4 F4 hY hF => ?_)
      simp only [phased, List.flatMap_cons, List.flatMap_nil, List.take_succ_cons, List.take_zero, List.drop_succ_cons, List.drop_zero, sel_true, sel_false, sel_nil, List.map_cons, List.map_nil, List.cons_append, List.nil_append, List.append_nil]
      repeat
        apply wpSeq_read (by first | rfl | (rw [hY]; rfl))
        · intro w2 hS2
          (try simp only [Keeps, Cells] at hS2)
          (try simp only [HasC, Cells] at hS2)
          go_simp
          with_reducible rfl
        simp only [Act.put, List.setIfInBounds_toArray, List.set_cons_zero, List.set_cons_succ]
      repeat
        first
          | (apply wpSeq_unread (by rw [hY]; rfl)
             simp only [Act.put, List.setIfInBounds_toArray, List.set_cons_zero, List.set_cons_succ])
          | (refine wpSeq_skip (by rw [hY]; rfl) ((Keeps.start hC7)) ?_
             simp only [Act.put, List.setIfInBounds_toArray, List.set_cons_zero, List.set_cons_succ])
      repeat
        apply wpSeq_read (by first | rfl | (rw [hY]; rfl))
        · intro w2 hS2
          (try simp only [Keeps, Cells] at hS2)
          (try simp only [HasC, Cells] at hS2)
          go_simp
          with_reducible rfl
        simp only [Act.put, List.setIfInBounds_toArray, List.set_cons_zero, List.set_cons_succ]
      repeat
        first
          | (apply wpSeq_unread (by rw [hY]; rfl)
             simp only [Act.put, List.setIfInBounds_toArray, List.set_cons_zero, List.set_cons_succ])
          | (refine wpSeq_skip (by rw [hY]; rfl) ((Keeps.start hC7)) ?_
             simp only [Act.put, List.setIfInBounds_toArray, List.set_cons_zero, List.set_cons_succ])
      repeat
        apply wpSeq_read (by first | rfl | (rw [hY]; rfl))
        · intro w2 hS2
          (try simp only [Keeps, Cells] at hS2)
          (try simp only [HasC, Cells] at hS2)
          go_simp
          with_reducible rfl
        simp only [Act.put, List.setIfInBounds_toArray, List.set_cons_zero, List.set_cons_succ]
      repeat
        first
          | (apply wpSeq_unread (by rw [hY]; rfl)
             simp only [Act.put, List.setIfInBounds_toArray, List.set_cons_zero, List.set_cons_succ])
          | (refine wpSeq_skip (by rw [hY]; rfl) ((Keeps.start hC7)) ?_
             simp only [Act.put, List.setIfInBounds_toArray, List.set_cons_zero, List.set_cons_succ])
      repeat
        apply wpSeq_read (by first | rfl | (rw [hY]; rfl))
        · intro w2 hS2
          (try simp only [Keeps, Cells] at hS2)
          (try simp only [HasC, Cells] at hS2)
          go_simp
          with_reducible rfl
        simp only [Act.put, List.setIfInBounds_toArray, List.set_cons_zero, List.set_cons_succ]
      apply wpSeq_call (by first | rfl | (rw [hY]; rfl))
      · go_simp
        with_reducible exact ⟨rfl, rfl⟩
      refine (HA.out _).mono ?_
      rintro e w8 ⟨rfl, hb8⟩
      have hk8 := (Keeps.start hC7).step hb8
      refine ⟨_, rfl, hk8, ?_⟩
      simp only [Act.put, List.setIfInBounds_toArray, List.set_cons_zero, List.set_cons_succ]
      repeat
        apply wpSeq_read (by first | rfl | (rw [hY]; rfl))
        · intro w2 hS2
          (try simp only [Keeps, Cells] at hS2)
          (try simp only [HasC, Cells] at hS2)
          go_simp
          with_reducible rfl
        simp only [Act.put, List.setIfInBounds_toArray, List.set_cons_zero, List.set_cons_succ]
      refine wpSeq_done (hF.out _ _ (fun K2 hK2 => ?_))
      clear hF hY
      have B8 := below_trans B7 hk8.1
      go_wp2_with fail
      refine OnlyK.mk (hK2.out _ _ ?_)
      clear hK2
      go_wp2
      go_returns
      exact ⟨rfl, B8⟩
end Go.Proofs.YtieeogndnhighaaGreat
