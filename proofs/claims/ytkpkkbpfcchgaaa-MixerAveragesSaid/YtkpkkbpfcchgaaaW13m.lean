/- New at any input and its reference (layer 13). No condition. -/
import Derived.Test.YtkpkkbpfcchgaaaW13l
set_option linter.unusedSimpArgs false
set_option linter.unusedVariables false
set_option linter.unusedSectionVars false
namespace Go.Proofs.Ytkpkkbpfcchgaaa
open Go.RowKit

/-- The error of New, the mixer. -/
def S13.newE (p c : Int) : Int := if p < 1 ∨ 16 < p then 6 else if c < 1 ∨ 65536 < c then 2 else 0
def S13.newN (p c : Int) : Int := if S13.newE p c = 0 then p else 0
def S13.newL (p c : Int) : List (List Int) := if S13.newE p c = 0 then List.replicate c.toNat (List.replicate p.toNat (65536 / p)) else []

theorem new13_err (p c : Int) (w : World) (he : S13.newE p c ≠ 0) :
    Calls Try.prog 12 #[.int .i64 p, .int .i64 c] w fun e w' => ∃ V, e = .returned (.tuple #[V, .int .i64 (S13.newE p c)]) ∧ MixIs 0 [] V w' ∧ Below w.heap.size w w' := by
  have HB1 := Lib.hid fun W => between13_any p 1 16 W
  have HB2 := Lib.hid fun W => between13_any c 1 65536 W
  by_cases hp : p < 1 ∨ 16 < p
  · have e1 : S13.newE p c = 6 := by unfold S13.newE; rw [if_pos hp]
    rw [e1]
    have hb : (decide ((1 : Int) ≤ p) && decide (p ≤ 16)) = false := by rw [Bool.and_eq_false_iff, decide_eq_false_iff_not, decide_eq_false_iff_not]; omega
    rw [hb] at HB1
    clear hp e1 hb he
    go_enter Try.func12, Try.ntmps12
    go_wp2_with fail
    refine (HB1.out _).mono ?_
    rintro e w1 ⟨rfl, hb1⟩
    have hB1 : Below w.heap.size w w1 := below_trans (by go_grown) hb1
    have hres := (Blk.new w [.int .i64 0, .slice none 0 0] 24).step hb1
    have r0 := hres.cell 0
    have r1 := hres.cell 1
    have f0 := hres.free 0
    have f1 := hres.free 1
    have s1 := ((hres.set 0 (.int .i64 0)).set 1 (.slice none 0 0)).cell 0
    have s2 := ((hres.set 0 (.int .i64 0)).set 1 (.slice none 0 0)).cell 1
    simp only [List.set_cons_zero, List.set_cons_succ, List.getElem?_cons_zero, List.getElem?_cons_succ] at r0 r1 s1 s2
    clear hres
    go_wp2
    refine bodyPost_ret (v := .tuple #[.agg #[.int .i64 0, .slice none 0 0], .int .i64 6]) (by simp [results, Try.results12, go_sem, s1, s2]) rfl ⟨_, rfl, MixIs.nil _, ?_⟩
    exact (hB1.setCell (Nat.le_refl _) _).setCell (Nat.le_refl _) _
  · have e1 : S13.newE p c = 2 := by unfold S13.newE at he ⊢; rw [if_neg hp] at he ⊢; split at he <;> simp_all
    have hc : c < 1 ∨ 65536 < c := by unfold S13.newE at he; rw [if_neg hp] at he; split at he <;> simp_all
    rw [e1]
    have hb1 : (decide ((1 : Int) ≤ p) && decide (p ≤ 16)) = true := by rw [Bool.and_eq_true, decide_eq_true_eq, decide_eq_true_eq]; omega
    have hb2 : (decide ((1 : Int) ≤ c) && decide (c ≤ 65536)) = false := by rw [Bool.and_eq_false_iff, decide_eq_false_iff_not, decide_eq_false_iff_not]; omega
    rw [hb1] at HB1
    rw [hb2] at HB2
    clear hp hc e1 hb1 hb2 he
    go_enter Try.func12, Try.ntmps12
    go_wp2_with fail
    refine (HB1.out _).mono ?_
    rintro e w1 ⟨rfl, hb1⟩
    have hB1 : Below w.heap.size w w1 := below_trans (by go_grown) hb1
    have hres1 := (Blk.new w [.int .i64 0, .slice none 0 0] 24).step hb1
    have Hres1 := Lib.hid hres1
    clear hres1
    go_wp2_with fail
    refine (HB2.out _).mono ?_
    rintro e w2 ⟨rfl, hb2⟩
    have hB2 : Below w.heap.size w w2 := below_trans hB1 hb2
    have hres := Hres1.out.step hb2
    have r0 := hres.cell 0
    have r1 := hres.cell 1
    have f0 := hres.free 0
    have f1 := hres.free 1
    have s1 := ((hres.set 0 (.int .i64 0)).set 1 (.slice none 0 0)).cell 0
    have s2 := ((hres.set 0 (.int .i64 0)).set 1 (.slice none 0 0)).cell 1
    simp only [List.set_cons_zero, List.set_cons_succ, List.getElem?_cons_zero, List.getElem?_cons_succ] at r0 r1 s1 s2
    clear hres
    go_wp2
    refine bodyPost_ret (v := .tuple #[.agg #[.int .i64 0, .slice none 0 0], .int .i64 2]) (by simp [results, Try.results12, go_sem, s1, s2]) rfl ⟨_, rfl, MixIs.nil _, ?_⟩
    exact (hB2.setCell (Nat.le_refl _) _).setCell (Nat.le_refl _) _

theorem S13.newE_zero {p c : Int} (h : S13.newE p c = 0) : 1 ≤ p ∧ p ≤ 16 ∧ 1 ≤ c ∧ c ≤ 65536 := by
  unfold S13.newE at h
  split at h
  · simp at h
  · split at h
    · simp at h
    · omega

theorem new13_any (p c : Int) (w : World) : Calls Try.prog 12 #[.int .i64 p, .int .i64 c] w fun e w' => ∃ V, e = .returned (.tuple #[V, .int .i64 (S13.newE p c)]) ∧ MixIs (S13.newN p c) (S13.newL p c) V w' ∧ Below w.heap.size w w' := by
  by_cases he : S13.newE p c = 0
  · have e1 : S13.newN p c = p := by unfold S13.newN; rw [if_pos he]
    have e2 : S13.newL p c = List.replicate c.toNat (List.replicate p.toNat (65536 / p)) := by unfold S13.newL; rw [if_pos he]
    rw [he, e1, e2]
    obtain ⟨h1, h2, h3, h4⟩ := S13.newE_zero he
    obtain ⟨p, rfl⟩ := Int.eq_ofNat_of_zero_le (show 0 ≤ p by omega)
    obtain ⟨c, rfl⟩ := Int.eq_ofNat_of_zero_le (show 0 ≤ c by omega)
    exact new13_ok p c w (by omega) (by omega) (by omega) (by omega)
  · have e1 : S13.newN p c = 0 := by unfold S13.newN; rw [if_neg he]
    have e2 : S13.newL p c = [] := by unfold S13.newL; rw [if_neg he]
    rw [e1, e2]
    exact new13_err p c w he

/-! The reference. -/
theorem refNew13_err (p c : Int) (w : World) (he : S13.newE p c ≠ 0) :
    Calls Try.prog 13 #[.int .i64 p, .int .i64 c] w fun e w' => ∃ V, e = .returned (.tuple #[V, .int .i64 (S13.newE p c)]) ∧ MixIs 0 [] V w' ∧ Below w.heap.size w w' := by
  have hres := Blk.new w [.int .i64 0, .slice none 0 0] 24
  have s1 := ((hres.set 0 (.int .i64 0)).set 1 (.slice none 0 0)).cell 0
  have s2 := ((hres.set 0 (.int .i64 0)).set 1 (.slice none 0 0)).cell 1
  simp only [List.set_cons_zero, List.set_cons_succ, List.getElem?_cons_zero, List.getElem?_cons_succ] at s1 s2
  clear hres
  by_cases hp : p < 1 ∨ 16 < p
  · have e1 : S13.newE p c = 6 := by unfold S13.newE; rw [if_pos hp]
    rw [e1]
    have hw : p < 1 ∨ (¬ p < 1 ∧ 16 < p) := by omega
    clear hp e1 he
    rcases hw with hw | ⟨hw, hw2⟩
    all_goals
      go_enter Try.func13, Try.ntmps13
      go_wp2
      refine bodyPost_ret (v := .tuple #[.agg #[.int .i64 0, .slice none 0 0], .int .i64 6]) (by simp [results, Try.results13, go_sem, s1, s2]) rfl ⟨_, rfl, MixIs.nil _, ?_⟩
      go_grown
  · have e1 : S13.newE p c = 2 := by unfold S13.newE at he ⊢; rw [if_neg hp] at he ⊢; split at he <;> simp_all
    have hc : c < 1 ∨ 65536 < c := by unfold S13.newE at he; rw [if_neg hp] at he; split at he <;> simp_all
    rw [e1]
    have hw : c < 1 ∨ (¬ c < 1 ∧ 65536 < c) := by omega
    have hp1 : ¬ p < 1 := by omega
    have hp2 : ¬ 16 < p := by omega
    clear hp hc e1 he
    rcases hw with hw | ⟨hw, hw2⟩
    all_goals
      go_enter Try.func13, Try.ntmps13
      go_wp2
      refine bodyPost_ret (v := .tuple #[.agg #[.int .i64 0, .slice none 0 0], .int .i64 2]) (by simp [results, Try.results13, go_sem, s1, s2]) rfl ⟨_, rfl, MixIs.nil _, ?_⟩
      go_grown

/-- A row of the call's own, as a set. -/
theorem or_of_owns {w : World} {base base' : Nat} {a : Option Addr} {cap : Nat} {l : List Int} (h : w.ownsRow base 3 1 (.slice a l.length cap) l.length (Ints l)) (hne : 1 ≤ l.length) (hb : base' ≤ base) :
    ∃ b, a = some ⟨b, 0, none⟩ ∧ base ≤ b ∧ (OR13.mk b cap l).ok w base' := by
  have hl := h.1
  rcases h.2 with ⟨h', h0⟩ | ⟨g, cap', cur, h', hbg, hg, hnc, hcm, hcs, htake⟩
  · omega
  · simp only [Value.slice.injEq, true_and] at h'
    obtain ⟨rfl, rfl⟩ := h'
    unfold maxLen at hcm
    exact ⟨g, rfl, hbg, Nat.le_trans hb hbg, hnc, hcm, cur.toList, hg, by simpa using htake⟩

set_option maxHeartbeats 2000000 in
theorem refNew13_ok (p m : Nat) (w : World) (hp : 1 ≤ p) (hp' : p ≤ 16) (hm : 1 ≤ m) (hm' : m ≤ 65536) :
    Calls Try.prog 13 #[.int .i64 p, .int .i64 m] w fun e w' => ∃ V, e = .returned (.tuple #[V, .int .i64 0]) ∧ MixIs p (List.replicate m (List.replicate p (65536 / (p : Int)))) V w' ∧ Below w.heap.size w w' := by
  have hq1 : (0 : Int) ≤ 65536 / (p : Int) := Int.ediv_nonneg (by omega) (by omega)
  have hq2 : 65536 / (p : Int) ≤ 65536 := Int.ediv_le_self _ (by omega)
  have hqd : (65536 : Int).tdiv p = 65536 / (p : Int) := Int.tdiv_eq_ediv_of_nonneg (by omega)
  have hqw : IntKind.i64.wrap (65536 / (p : Int)) = 65536 / (p : Int) := IntWalk.i64_in _ (by omega)
  have hp0 : ((p : Int) == 0) = false := by simp; omega
  have hp1 : ¬ (p : Int) = 0 := by omega
  have hp2 : ¬ p = 0 := by omega
  generalize 65536 / (p : Int) = u at *
  have e1 : ¬ (p : Int) < 1 := by omega
  have e2 : ¬ (16 : Int) < p := by omega
  have e3 : ¬ (m : Int) < 1 := by omega
  have e4 : ¬ (65536 : Int) < m := by omega
  go_enter Try.func13, Try.ntmps13
  go_wp2
  have Hres0 := Lib.hid ((Blk.new w [.int .i64 0, .slice none 0 0] 24).alloc (Obj.cells #[.int .i64 p, .slice none 0 0] 24))
  have Hv0 := Lib.hid (show Blk ((w.alloc (Obj.cells #[.int .i64 0, .slice none 0 0] 24)).alloc (Obj.cells #[.int .i64 p, .slice none 0 0] 24)) (w.heap.size + 1) [.int .i64 p, .slice none 0 0] 24 by
    have := Blk.new (w.alloc (Obj.cells #[.int .i64 0, .slice none 0 0] 24)) [.int .i64 p, .slice none 0 0] 24
    simpa using this)
  go_loopw [7] (fun i wr => ∃ (R : List OR13) (a : Option Addr) (cap : Nat), R.length ≤ m ∧ i = .int .i64 R.length ∧ (∀ r ∈ R, r.l = List.replicate p u) ∧ Blk wr (w.heap.size + 1) [.int .i64 p, .slice a R.length cap] 24 ∧
      wr.ownsRow (w.heap.size + 2) 36 1 (.slice a R.length cap) R.length (R.map OR13.head) ∧ ORs wr (w.heap.size + 2) R ∧ Blk wr w.heap.size [.int .i64 0, .slice none 0 0] 24 ∧ Below w.heap.size w wr) (fun i _ => m - (intOf i).toNat)
  case atStart => exact ⟨[], none, 0, by simp, rfl, by simp, Hv0.out, World.ownsRow_nil _ _ _ _, ⟨by simp, List.Pairwise.nil⟩, Hres0.out, by go_grown⟩
  case round =>
    obtain ⟨wo, rfl⟩ : ∃ wo : World, wo = wr := ⟨_, rfl⟩
    obtain ⟨R, a, cap, hRm, rfl, hall, hv, hown, hR, hres, hB⟩ := hrel
    have zv := hv.lt
    have zr : w.heap.size < wo.heap.size := by omega
    obtain ⟨k, hk⟩ : ∃ k, k = R.length := ⟨_, rfl⟩
    rw [← hk] at hv hown hRm ⊢
    have Hv := Lib.hid hv
    have Hown := Lib.hid hown
    have HR := Lib.hid hR
    have Hres := Lib.hid hres
    have Hall := Lib.hid hall
    have Hk := Lib.hid hk
    clear hv hown hR hres hall hk
    by_cases hlt : k < m
    · have hlt2 : (k : Int) < m := by omega
      have d1 : decide ((k : Int) < (m : Int)) = true := by simp; omega
      go_wp2
      go_loopw [8, 9] (fun v i wr => ∃ (j : Nat) (b : Option Addr) (c : Nat), j ≤ p ∧ i = .int .i64 j ∧ v = .slice b j c ∧ wr.ownsRow wo.heap.size 3 1 (.slice b j c) j (Ints (List.replicate j u)) ∧ Below wo.heap.size wo wr) (fun _ i _ => p - (intOf i).toNat)
      case atStart => exact ⟨0, none, 0, by omega, rfl, rfl, by simpa [Ints] using World.ownsRow_nil _ _ _ _, Below.refl _ _⟩
      case round =>
        obtain ⟨j, b, c, hj, rfl, rfl, hown2, hB2⟩ := hrel
        have zr2 : wo.heap.size ≤ wr.heap.size := hB2.size
        have Hown2 := Lib.hid hown2
        clear hown2
        by_cases hlt3 : j < p
        · have hlt4 : (j : Int) < p := by omega
          go_wp2_with (at_builtin; refine wpList_append_rd _ _ 36 3 1 8 _ wo.heap.size elems_ints rfl rfl _ j (Ints (List.replicate j u)) rfl (Hown2.out.alloc _) (some ⟨wr.heap.size, 0, none⟩) 1 1 [.int .i64 u] rfl rfl (Rd.new wr [.int .i64 u] 3) (by simp [Value.oneCell']) (by unfold maxLen; omega) (by omega) (by simp; omega) ?_; intro a2 cap2 w2 hown3 hgrow2; have hB3 : Below wo.heap.size wo w2 := Below.grown (by go_grown) hgrow2 (by simp; omega) (fun j e => (Hown2.out.lt j e).1); have Hown3 := Lib.hid hown3; clear hown3 hgrow2)
          go_roundw
          case rel =>
            refine ⟨j + 1, a2, cap2, by omega, by go_num, rfl, ?_, hB3⟩
            have := Hown3.out
            rw [List.replicate_succ', Ints_append]
            exact this
          case measure => simp [intOf]; omega
        · obtain rfl : j = p := by omega
          have hB2' : Below w.heap.size w wr := below_trans hB hB2
          have hown2 := Hown2.out
          have hll : (List.replicate j u).length = j := List.length_replicate
          obtain ⟨b3, rfl, hb3, hok3⟩ := or_of_owns (base' := w.heap.size + 2) (l := List.replicate j u) (by rw [hll]; exact hown2) (by rw [hll]; exact hp) (by omega)
          have kv3 := Hv.out.step hB2
          have kc3 := kv3.cell 1
          have Hr3 := Lib.hid hok3
          have kv4 := kv3.alloc (Obj.cells #[.slice (some ⟨b3, 0, none⟩) j c] 36)
          have hown4 := (ownS Hown.out hB2).alloc (Obj.cells #[.slice (some ⟨b3, 0, none⟩) j c] 36)
          simp only [List.getElem?_cons_zero, List.getElem?_cons_succ] at kc3
          have hR4 := (HR.out.snoc hB2 hok3 hb3).step ((Below.refl wr.heap.size wr).alloc (Nat.le_refl _) (Obj.cells #[.slice (some ⟨b3, 0, none⟩) j c] 36))
          have hres3 := (Hres.out.step hB2).alloc (Obj.cells #[.slice (some ⟨b3, 0, none⟩) j c] 36)
          have Kv4 := Lib.hid kv4
          have Hown4 := Lib.hid hown4
          have HR4 := Lib.hid hR4
          have Hres3 := Lib.hid hres3
          have hbl3 : b3 < wr.heap.size := hok3.lt
          clear hok3 hown2 kv3 kv4 hown4 hR4 hres3
          go_wp2_with (at_builtin; refine wpList_append_rd _ _ 22 36 1 24 _ (w.heap.size + 2) elems_rows rfl rfl _ k (R.map OR13.head) rfl Hown4.out (some ⟨wr.heap.size, 0, none⟩) 1 1 [.slice (some ⟨b3, 0, none⟩) j c] rfl rfl (Rd.new wr [.slice (some ⟨b3, 0, none⟩) j c] 36) (by simp [Value.oneCell']) (by unfold maxLen; omega) (by omega) (by simp; omega) ?_; intro a5 cap5 w5 hown5 hgrow5; have kv5 := Kv4.out.grown hgrow5 (Ne.symm (own_apart Hown4.out Kv4.out (by decide))); have hR5 := HR4.out.grown Hown4.out (by decide) hgrow5; have hres5 := Hres3.out.grown hgrow5 (Ne.symm (own_apart Hown4.out Hres3.out (by decide))); have hB5 : Below w.heap.size w w5 := Below.grown (hB2'.alloc (by omega) _) hgrow5 (by simp; omega) (fun j e => by have := (owns_block Hown4.out e).1; omega); have kf5 := kv5.free 1; have kz5 := kv5.lt; have Hv6 := Lib.hid (kv5.set 1 (.slice a5 (k + 1) cap5)); have Hown6 := Lib.hid (hown5.kept (grown_setCell w5 (w.heap.size + 1) 1 (.slice a5 (k + 1) cap5)) (.inr (own_apart hown5 kv5 (by decide)))); have HR6 := Lib.hid (hR5.other (i := 1) (v := .slice a5 (k + 1) cap5) kv5 (by decide)); have Hres6 := Lib.hid (hres5.other (w.heap.size + 1) 1 (.slice a5 (k + 1) cap5) (by omega)); have hB6 : Below w.heap.size w (w5.setCell ⟨w.heap.size + 1, 1, none⟩ (.slice a5 (k + 1) cap5)) := hB5.setCell (by simp only; omega) _; have kc5 := kv5.cell 1; simp only [List.getElem?_cons_zero, List.getElem?_cons_succ] at kc5; clear hgrow5 hown5 kv5 hR5 hres5)
          go_roundw
          case rel =>
            refine ⟨R ++ [⟨b3, c, List.replicate j u⟩], a5, cap5, by rw [List.length_append, ← Hk.out]; simp; omega, by rw [List.length_append, ← Hk.out]; go_num, ?_, ?_, ?_, HR6.out, Hres6.out, hB6⟩
            · intro r hr
              rcases List.mem_append.1 hr with hr | hr
              · exact Hall.out r hr
              · rw [List.mem_singleton.1 hr]
            · rw [List.length_append, ← Hk.out]; exact Hv6.out
            · have := Hown6.out
              rw [List.length_append, ← Hk.out, List.map_append]
              simpa [OR13.head, hll] using this
          case measure => simp [intOf]; omega
    · obtain rfl : k = m := by omega
      have hres := Hres.out
      have hR1 := HR.out.other (i := 0) (v := .int .i64 p) hres (by decide)
      have hown1 := Hown.out.kept (grown_setCell wo w.heap.size 0 (.int .i64 p)) (.inr (own_apart Hown.out hres (by decide)))
      have hR2 := hR1.other (i := 1) (v := .slice a k cap) (hres.set 0 (.int .i64 p)) (by decide)
      have hown2 := hown1.kept (grown_setCell _ w.heap.size 1 (.slice a k cap)) (.inr (own_apart hown1 (hres.set 0 (.int .i64 p)) (by decide)))
      have hmx := hR2.mix (n := (p : Int)) (a := a) (cap := cap) (by rw [← Hk.out]; exact hown2)
      have hLs : R.map OR13.l = List.replicate k (List.replicate p u) := by
        rw [List.eq_replicate_iff]
        refine ⟨by rw [List.length_map, ← Hk.out], fun l hl => ?_⟩
        obtain ⟨r, hr, rfl⟩ := List.mem_map.1 hl
        exact Hall.out r hr
      rw [hLs, ← Hk.out] at hmx
      have v0 := Hv.out.cell 0
      have v1 := Hv.out.cell 1
      have r0 := hres.cell 0
      have r1 := hres.cell 1
      have f0 := hres.free 0
      have f1 := hres.free 1
      have s1 := ((hres.set 0 (.int .i64 p)).set 1 (.slice a k cap)).cell 0
      have s2 := ((hres.set 0 (.int .i64 p)).set 1 (.slice a k cap)).cell 1
      simp only [List.set_cons_zero, List.set_cons_succ, List.getElem?_cons_zero, List.getElem?_cons_succ] at v0 v1 r0 r1 s1 s2
      have Hmx := Lib.hid hmx
      clear hmx hLs hres hR1 hown1 hR2 hown2
      go_wp2
      refine bodyPost_ret (v := .tuple #[.agg #[.int .i64 p, .slice a k cap], .int .i64 0]) (by simp [results, Try.results13, go_sem, s1, s2]) rfl ⟨_, rfl, ?_, ?_⟩
      · exact Hmx.out
      · exact (hB.setCell (Nat.le_refl _) _).setCell (Nat.le_refl _) _

theorem refNew13_any (p c : Int) (w : World) : Calls Try.prog 13 #[.int .i64 p, .int .i64 c] w fun e w' => ∃ V, e = .returned (.tuple #[V, .int .i64 (S13.newE p c)]) ∧ MixIs (S13.newN p c) (S13.newL p c) V w' ∧ Below w.heap.size w w' := by
  by_cases he : S13.newE p c = 0
  · have e1 : S13.newN p c = p := by unfold S13.newN; rw [if_pos he]
    have e2 : S13.newL p c = List.replicate c.toNat (List.replicate p.toNat (65536 / p)) := by unfold S13.newL; rw [if_pos he]
    rw [he, e1, e2]
    obtain ⟨h1, h2, h3, h4⟩ := S13.newE_zero he
    obtain ⟨p, rfl⟩ := Int.eq_ofNat_of_zero_le (show 0 ≤ p by omega)
    obtain ⟨c, rfl⟩ := Int.eq_ofNat_of_zero_le (show 0 ≤ c by omega)
    exact refNew13_ok p c w (by omega) (by omega) (by omega) (by omega)
  · have e1 : S13.newN p c = 0 := by unfold S13.newN; rw [if_neg he]
    have e2 : S13.newL p c = [] := by unfold S13.newL; rw [if_neg he]
    rw [e1, e2]
    exact refNew13_err p c w he
end Go.Proofs.Ytkpkkbpfcchgaaa
