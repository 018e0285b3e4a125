/- The walk of Learn, as a whole (layer 13). No condition. -/
import Derived.Test.YtkpkkbpfcchgaaaW13p
set_option linter.unusedSimpArgs false
set_option linter.unusedVariables false
set_option linter.unusedSectionVars false
namespace Go.Proofs.Ytkpkkbpfcchgaaa
open Go.RowKit

theorem or_ok_set {R : List OR13} {c : Nat} {r : OR13} (hc : R[c]? = some r) (l' : List Int) : (R.set c ⟨r.b, r.cap, l'⟩).map OR13.l = (R.map OR13.l).set c l' := by rw [List.map_set]
theorem or_head_set {R : List OR13} {c : Nat} {r : OR13} (hc : R[c]? = some r) {l' : List Int} (hl : l'.length = r.l.length) : (R.set c ⟨r.b, r.cap, l'⟩).map OR13.head = R.map OR13.head := by
  rw [List.map_set]
  have : (OR13.mk r.b r.cap l').head = r.head := by simp [OR13.head, hl]
  rw [this]
  apply List.ext_getElem?
  intro i
  rw [List.getElem?_set]
  split
  · rename_i e
    subst e
    rw [List.getElem?_map, hc]
    have : c < (R.map OR13.head).length := by rw [List.length_map]; exact (List.getElem?_eq_some_iff.1 hc).1
    rw [if_pos this]; rfl
  · rfl

set_option maxHeartbeats 4000000 in
theorem learn13_own (n : Int) (L : List (List Int)) (ma : Option Addr) (mc c : Nat) (xs : List Int) (a : Option Addr) (cap : Nat) (bit rate : Int) (w : World) (hV : MixIs n L (.agg #[.int .i64 n, .slice ma L.length mc]) w) (hrd : Rd w a (Ints xs))
    (hu : S13.usable 16 n L c xs = 0) (hbit : 0 ≤ bit ∧ bit ≤ 1) (hrate : 1 ≤ rate ∧ rate ≤ 255) :
    Calls Try.prog 19 #[.agg #[.int .i64 n, .slice ma L.length mc], .int .i64 c, .slice a xs.length cap, .int .i64 bit, .int .i64 rate] w fun e w' =>
      ∃ V, e = .returned (.tuple #[V, .int .i64 0]) ∧ MixOwn n (S13.learnL L c xs bit rate) V w' ∧ Below w.heap.size w w' := by
  have HU := Lib.hid fun W (hb : Below w.heap.size w W) => usable13_any n L _ c xs a cap W (hV.step hb) (by have := (S13.usable_zero hu).2.2.2.1; have := (S13.check_zero (S13.usable_zero hu).1).2.1; omega) (hrd.step hb)
  rw [hu] at HU
  obtain ⟨k1, k2, k3, k4, k5, k6, k7⟩ := S13.usable_zero hu
  obtain ⟨q1, q2, q3, q4, q5⟩ := S13.check_zero k1
  have HB1 := Lib.hid fun W => between13_any bit 0 1 W
  have HB2 := Lib.hid fun W => between13_any rate 1 255 W
  rw [decide_eq_true hbit.1, decide_eq_true hbit.2] at HB1
  rw [decide_eq_true hrate.1, decide_eq_true hrate.2] at HB2
  obtain ⟨R0, ra, rc, rfl, hRV, h1, h2, hrm, hok⟩ := hV
  simp at hRV
  obtain ⟨rfl, rfl⟩ := hRV
  have HLL := Lib.hid (show S13.learnL (R0.map Row13.l) c xs bit rate = (R0.map Row13.l).set c (S13.learnRow (4096 * bit - S06.squash (S13.mix ((R0.map Row13.l).getD c []) xs)) rate ((R0.map Row13.l).getD c []) xs) from rfl)
  simp only [Int.toNat_natCast] at k7
  rw [List.length_map] at *
  obtain ⟨m, hm⟩ : ∃ m, m = R0.length := ⟨_, rfl⟩
  rw [← hm] at k3 q3 q4 h1 HU ⊢
  have Hm := Lib.hid hm
  have Hrm := Lib.hid hrm
  have Hok := Lib.hid hok
  have Hq5 := Lib.hid q5
  have Hfit := Lib.hid k7
  have Hrd := Lib.hid hrd
  have hcm : c < m := by omega
  have hcm2 : (c : Int) < m := by omega
  have hc0 : (0 : Int) ≤ (c : Int) := by omega
  have hx16 : xs.length ≤ 16 := by omega
  clear hm hrm hok q5 k1 k6 k7 hu hrd
  have hsq := S06.squash_bounds (S13.mix ((R0.map Row13.l).getD c []) xs)
  have HSq := Lib.hid fun W => squash06_any (S13.mix ((R0.map Row13.l).getD c []) xs) W
  obtain ⟨q, hq⟩ : ∃ q, S06.squash (S13.mix ((R0.map Row13.l).getD c []) xs) = q := ⟨_, rfl⟩
  rw [hq] at hsq HSq
  have HLLo := Lib.hid (show S13.learnL (R0.map Row13.l) c xs bit rate = (R0.map Row13.l).set c (S13.learnRow (4096 * bit - q) rate ((R0.map Row13.l).getD c []) xs) by rw [HLL.out, hq])
  clear hq HLL
  have e1 : IntKind.i64.wrap (4096 * bit) = 4096 * bit := IntWalk.i64_in _ (by omega)
  have e2 : IntKind.i64.wrap (4096 * bit - q) = 4096 * bit - q := IntWalk.i64_in _ (by omega)
  have Hxl := Lib.hid k4
  have hx1 := k5
  clear k4 k5
  obtain ⟨l, hl⟩ : ∃ l, l = xs.length := ⟨_, rfl⟩
  rw [← hl] at HU hx16 hx1 ⊢
  have Hl := Lib.hid hl
  clear hl
  go_enter Try.func19, Try.ntmps19
  go_wp2_with fail
  refine (HU.out _ (by go_grown)).mono ?_
  rintro e w1 ⟨rfl, hb1⟩
  have hB1 : Below w.heap.size w w1 := below_trans (by go_grown) hb1
  obtain ⟨w0, hw0⟩ : ∃ w0, w0 = ((w.alloc (Obj.cells #[.int .i64 n, .slice ma m mc] 24)).alloc (Obj.cells #[.int .i64 rate] 3)).alloc (Obj.cells #[.int .i64 0, .slice none 0 0] 24) := ⟨_, rfl⟩
  rw [← hw0] at hb1
  have Hm1 := Lib.hid (show Blk w1 w.heap.size [.int .i64 n, .slice ma m mc] 24 by
    have : Blk w0 w.heap.size [.int .i64 n, .slice ma m mc] 24 := by rw [hw0]; exact ((Blk.new w _ _).alloc _).alloc _
    exact this.step hb1)
  have Hr1 := Lib.hid (show Blk w1 (w.heap.size + 1) [.int .i64 rate] 3 by
    have h0 := (Blk.new (w.alloc (Obj.cells #[.int .i64 n, .slice ma m mc] 24)) [.int .i64 rate] 3).alloc (Obj.cells #[.int .i64 0, .slice none 0 0] 24)
    have : Blk w0 (w.heap.size + 1) [.int .i64 rate] 3 := by rw [hw0]; simpa using h0
    exact this.step hb1)
  have Ho1 := Lib.hid (show Blk w1 (w.heap.size + 2) [.int .i64 0, .slice none 0 0] 24 by
    have h0 := Blk.new ((w.alloc (Obj.cells #[.int .i64 n, .slice ma m mc] 24)).alloc (Obj.cells #[.int .i64 rate] 3)) [.int .i64 0, .slice none 0 0] 24
    have : Blk w0 (w.heap.size + 2) [.int .i64 0, .slice none 0 0] 24 := by rw [hw0]; simpa using h0
    exact this.step hb1)
  clear hb1 hw0
  go_wp2_with fail
  refine (HB1.out _).mono ?_
  rintro e w2 ⟨rfl, hb2⟩
  have hB2 : Below w.heap.size w w2 := below_trans hB1 hb2
  have Hr2 := Lib.hid (Hr1.out.step hb2)
  have hr2 := Hr2.out.cell 0
  simp only [List.getElem?_cons_zero] at hr2
  have hr2l := Hr2.out.lt
  go_wp2_with fail
  refine (HB2.out _).mono ?_
  rintro e w3 ⟨rfl, hb3⟩
  have hB3 : Below w.heap.size w w3 := below_trans hB2 hb3
  have hC3 : Below w1.heap.size w1 w3 := below_trans hb2 hb3
  have Hm3 := Lib.hid (Hm1.out.step hC3)
  have Hr3 := Lib.hid (Hr1.out.step hC3)
  have Ho3 := Lib.hid (Ho1.out.step hC3)
  have hm30 := Hm3.out.cell 0
  have hm31 := Hm3.out.cell 1
  simp only [List.getElem?_cons_zero, List.getElem?_cons_succ] at hm30 hm31
  have zo3 := Ho3.out.lt
  have zm3 := Hm3.out.lt
  clear hb2 hb3 hC3 Hm1 Hr1 Ho1 Hr2
  have e0 : IntKind.i64.wrap 0 = 0 := rfl
  go_wp2
  go_loopw [43] (fun i wr => ∃ (R : List OR13) (a : Option Addr) (cap : Nat), R.length ≤ m ∧ i = .int .i64 R.length ∧ R.map OR13.l = (R0.map Row13.l).take R.length ∧ Blk wr w3.heap.size [.int .i64 n, .slice a R.length cap] 24 ∧
      wr.ownsRow (w3.heap.size + 1) 36 1 (.slice a R.length cap) R.length (R.map OR13.head) ∧ ORs wr (w3.heap.size + 1) R ∧ Below w3.heap.size w3 wr) (fun i _ => m - (intOf i).toNat)
  case atStart => exact ⟨[], none, 0, by simp, rfl, by simp, Blk.new w3 _ _, World.ownsRow_nil _ _ _ _, ⟨by simp, List.Pairwise.nil⟩, by go_grown⟩
  case round =>
    obtain ⟨R, oa, ocap, hRm, rfl, hall, hv, hown, hR, hC⟩ := hrel
    have zv := hv.lt
    obtain ⟨k, hk⟩ : ∃ k, k = R.length := ⟨_, rfl⟩
    rw [← hk] at hv hown hRm hall ⊢
    have Hv := Lib.hid hv
    have Hown := Lib.hid hown
    have HR := Lib.hid hR
    have Hall := Lib.hid hall
    have Hk := Lib.hid hk
    have hv1 := hv.cell 1
    simp only [List.getElem?_cons_zero, List.getElem?_cons_succ] at hv1
    have hB : Below w.heap.size w wr := below_trans hB3 hC
    clear hv hown hR hall hk
    by_cases hlt : k < m
    · have hlt2 : (k : Int) < m := by omega
      obtain ⟨r, g, o, hRr, hra, hcell, hro, hgl⟩ := row13_at Hrm.out Hok.out (k := k) (by rw [← Hm.out]; exact hlt)
      rw [hra] at Hm3 hm31 ⊢
      have hgb := block_lt_of_cell hcell
      simp only at hgb
      have hcw : wr.cell? ⟨g, o + k, none⟩ = some (.slice r.a r.l.length r.cap) := (hB.cell (p := ⟨g, o + k, none⟩) hgb).trans hcell
      have hrl : (r.l.length : Int) = n := (Hq5.out r.l (List.mem_map.2 ⟨r, List.mem_of_getElem? hRr, rfl⟩)).1
      have HRr := Lib.hid (show (R0.map Row13.l).take (k + 1) = (R0.map Row13.l).take k ++ [r.l] by rw [List.take_add_one, List.getElem?_map, hRr]; rfl)
      have HCl := Lib.hid fun W (hb : Below wr.heap.size wr W) => clone13_any r.l r.a r.cap W (by omega) (by omega) (hro.2.2.step (below_trans hB hb))
      clear hRr hcell hro hgl
      obtain ⟨q', hq'⟩ : ∃ q', q' = r.l.length := ⟨_, rfl⟩
      rw [← hq'] at hrl hcw HCl
      have Hq := Lib.hid hq'
      clear hq'
      go_wp2
      refine wp_region_chain 6 2 [true, true, true, false, false, false] [false, false, false, true, true, true] _ _ (fun w' => Cells w' [(⟨w3.heap.size, 1, none⟩, .slice oa k ocap)]) (by kernel_rfl) (List.take_append_drop 6 _).symm rfl rfl (by kernel_rfl) (by kernel_rfl) (by kernel_rfl) (by simp only [Cells]; exact ⟨hv1, trivial⟩) (fun Y Q4 F4 hY hF => ?_)
      simp only [List.take_succ_cons, List.take_zero, List.drop_succ_cons, List.drop_zero, sel_true, sel_false, sel_nil]
      repeat
        apply wpReads_value (by first | rfl | (rw [hY]; rfl))
        · intro w2 hS2
          (try simp only [Cells] at hS2)
          go_simp
          with_reducible rfl
        simp only [Act.put, List.setIfInBounds_toArray, List.set_cons_zero, List.set_cons_succ]
      refine wpReads_done ?_
      apply wpChain_call (by first | rfl | (rw [hY]; rfl))
      · go_simp
        with_reducible exact ⟨rfl, rfl⟩
      refine (HCl.out _ (Below.refl _ _).drew).mono ?_
      rintro e w4 ⟨⟨b4, cap4, l4⟩, rfl, hl4, hb4, hok4, hbb4⟩
      obtain rfl : l4 = r.l := hl4
      have hB4 : Below wr.heap.size wr w4 := below_trans ((Below.refl wr.heap.size wr).drew) hbb4
      have zB4 : wr.heap.size ≤ w4.heap.size := hB4.size
      have hb4' : wr.heap.size ≤ b4 := hb4
      have zr4 : b4 < w4.heap.size := hok4.lt
      have kv4 := Hv.out.step hB4
      have kc4 := kv4.cell 1
      simp only [List.getElem?_cons_zero, List.getElem?_cons_succ] at kc4
      refine ⟨.slice (some ⟨b4, 0, none⟩) q' cap4, by rw [Hq.out]; rfl, (by simp only [Cells]; exact ⟨kc4, trivial⟩), ?_⟩
      simp only [Act.put, List.setIfInBounds_toArray, List.set_cons_zero, List.set_cons_succ]
      have kv5 := kv4.alloc (Obj.cells #[.slice (some ⟨b4, 0, none⟩) q' cap4] 36)
      have kc5 := kv5.cell 1
      simp only [List.getElem?_cons_zero, List.getElem?_cons_succ] at kc5
      refine wpChain_value (by first | rfl | (rw [hY]; rfl)) (by go_simp; first | with_reducible exact ⟨rfl, rfl⟩ | with_reducible rfl) (by simp only [Cells]; exact ⟨kc5, trivial⟩) ?_
      simp only [Act.put, List.setIfInBounds_toArray, List.set_cons_zero, List.set_cons_succ]
      have hown5 := (ownS Hown.out hB4).alloc (Obj.cells #[.slice (some ⟨b4, 0, none⟩) q' cap4] 36)
      refine wpChain_append (.tmp 48) (.tmp 51) 22 36 1 24 _ (w3.heap.size + 1) elems_rows (.slice oa k ocap) k (R.map OR13.head) (some ⟨w4.heap.size, 0, none⟩) 1 1 [(.slice (some ⟨b4, 0, none⟩) q' cap4)] (by first | rfl | (rw [hY]; rfl)) rfl rfl rfl rfl
        (by simp [Value.oneCell', OR13.head]) (by unfold maxLen; omega) (by omega) hown5 (Rd.new w4 [(.slice (some ⟨b4, 0, none⟩) q' cap4)] 36) (by simp; omega) ?_
      intro a6 cap6 w6 hown6 hgrow6
      have kv6 := kv5.grown hgrow6 (Ne.symm (own_apart hown5 kv5 (by decide)))
      have kc6 := kv6.cell 1
      have kf6 := kv6.free 1
      simp only [List.getElem?_cons_zero, List.getElem?_cons_succ] at kc6
      refine ⟨by simp only [Cells]; exact ⟨kc6, trivial⟩, ?_⟩
      simp only [Act.put, List.setIfInBounds_toArray, List.set_cons_zero, List.set_cons_succ]
      have hok4' : (OR13.mk b4 cap4 r.l).ok w4 (w3.heap.size + 1) := ⟨show w3.heap.size + 1 ≤ b4 by have := hC.size; omega, hok4.2⟩
      have hR5 := (HR.out.snoc hB4 hok4' hb4').step ((Below.refl w4.heap.size w4).alloc (Nat.le_refl _) (Obj.cells #[.slice (some ⟨b4, 0, none⟩) q' cap4] 36))
      have hR6 := hR5.grown hown5 (by decide) hgrow6
      have hC6 : Below w3.heap.size w3 w6 := Below.grown ((below_trans hC hB4).alloc (by have := hC.size; omega) _) hgrow6 (by simp; have := hC.size; omega) (fun j e => by have := (owns_block hown5 e).1; omega)
      have Hv7 := Lib.hid (kv6.set 1 (.slice a6 (k + 1) cap6))
      have Hown7 := Lib.hid (hown6.kept (grown_setCell w6 w3.heap.size 1 (.slice a6 (k + 1) cap6)) (.inr (own_apart hown6 kv6 (by decide))))
      have HR7 := Lib.hid (hR6.other (i := 1) (v := .slice a6 (k + 1) cap6) kv6 (by decide))
      have hC7 : Below w3.heap.size w3 (w6.setCell ⟨w3.heap.size, 1, none⟩ (.slice a6 (k + 1) cap6)) := hC6.setCell (Nat.le_refl _) _
      clear hgrow6 hown6 hown5 kv4 kv5 kv6 hR5 hR6 hok4' hok4
      refine wpChain_done (hF.out _ _ (fun K hK => ?_))
      clear hF hY
      go_wp2_with fail
      refine OnlyK.mk (hK.out _ _ ?_)
      go_wp2
      go_roundw
      case rel =>
        refine ⟨R ++ [⟨b4, cap4, r.l⟩], a6, cap6, by rw [List.length_append, ← Hk.out]; simp; omega, by rw [List.length_append, ← Hk.out]; go_num, ?_, ?_, ?_, HR7.out, hC7⟩
        · rw [List.map_append, Hall.out, List.length_append, ← Hk.out, List.map_singleton]
          exact HRr.out.symm
        · rw [List.length_append, ← Hk.out]; exact Hv7.out
        · have := Hown7.out
          rw [List.length_append, ← Hk.out, List.map_append]
          simpa [OR13.head, ← Hq.out] using this
      case measure => simp [intOf]; omega
    · obtain rfl : k = m := by omega
      have hcR : c < R.length := by rw [← Hk.out]; exact hcm
      obtain ⟨r, hRr⟩ : ∃ r, R[c]? = some r := ⟨R[c], List.getElem?_eq_getElem hcR⟩
      have hLk : (R0.map Row13.l).take k = R0.map Row13.l := by rw [Hm.out, ← List.length_map (f := Row13.l), List.take_length]
      have hRL : R.map OR13.l = R0.map Row13.l := by rw [Hall.out, hLk]
      have hrl : (R0.map Row13.l).getD c [] = r.l := by
        rw [← hRL, List.getD_eq_getElem?_getD, List.getElem?_map, hRr]; rfl
      have hfit := Hfit.out
      rw [hrl] at hfit HSq
      have hlen : r.l.length = l := by rw [Hl.out]; exact hfit.1
      have hro := HR.out.1 r (List.mem_of_getElem? hRr)
      obtain ⟨og, oo, hoa, hoc⟩ := (Rd.of_owns Hown.out).at (i := c) (by rw [List.length_map]; exact hcR)
      subst hoa
      have hoc' : wr.cell? ⟨og, oo + c, none⟩ = some (.slice (some ⟨r.b, 0, none⟩) l r.cap) := by
        rw [hoc c (by rw [List.length_map]; exact hcR), List.getElem_map]
        have : R[c] = r := by rw [List.getElem?_eq_getElem hcR] at hRr; exact Option.some.inj hRr
        rw [this, OR13.head, hlen]
      have hocl := block_lt_of_cell hoc'
      simp only at hocl
      obtain ⟨gx, ox, rfl, hcx⟩ := Hrd.out.at (i := 0) (by rw [Ints_length, ← Hl.out]; exact hx1)
      have hgxl : gx < w.heap.size := block_lt_of_cell (hcx 0 (by rw [Ints_length, ← Hl.out]; exact hx1))
      have HMx := Lib.hid fun W (hb : Below wr.heap.size wr W) => mix13_any r.l xs (some ⟨r.b, 0, none⟩) (some ⟨gx, ox, none⟩) r.cap cap W hfit (by rw [← Hl.out]; exact hx1) ((hro.row.2.2).step hb) ((Hrd.out.step hB).step hb)
      rw [← Hl.out] at HMx
      have hd1 : -4096 ≤ 4096 * bit - q := by omega
      have hd2 : 4096 * bit - q ≤ 4096 := by omega
      have hLLv : S13.learnL (R0.map Row13.l) c xs bit rate = (R0.map Row13.l).set c (S13.learnRow (4096 * bit - q) rate r.l xs) := by rw [HLLo.out, hrl]
      have HLLv := Lib.hid hLLv
      have Hfit2 := Lib.hid hfit
      have Hro := Lib.hid hro
      have HRr2 := Lib.hid hRr
      have HRL := Lib.hid hRL
      have Hlen := Lib.hid hlen
      clear hLLv hfit hrl hLk hoc hRr hRL hro hlen
      generalize S13.mix r.l xs = mx at *
      go_wp2_with fail
      refine (HMx.out _ (by go_grown)).mono ?_
      rintro e w4 ⟨rfl, hb4⟩
      have hb4' : Below wr.heap.size wr w4 := below_trans (by go_grown) hb4
      have Hw4 := Lib.hid ((Blk.new wr [.slice (some ⟨r.b, 0, none⟩) l r.cap] 36).step hb4)
      go_wp2_with fail
      refine (HSq.out _).mono ?_
      rintro e w5 ⟨rfl, hb5⟩
      have hC5 : Below wr.heap.size wr w5 := below_trans hb4' hb5
      have hA5 : Below w3.heap.size w3 w5 := below_trans hC hC5
      have Hw5 := Lib.hid (Hw4.out.step hb5)
      have zw5 := Hw5.out.lt
      have hw50 := Hw5.out.cell 0
      simp only [List.getElem?_cons_zero] at hw50
      have z5 : wr.heap.size ≤ w5.heap.size := hC5.size
      have z3 : w3.heap.size < wr.heap.size := zv
      have hrb := Hro.out.1
      have hrl2 := Hro.out.lt
      obtain ⟨_, hrc1, hrc2, cs, hcs, hcst⟩ := Hro.out
      have HV := Lib.hid (visitLearn13_any r.l xs (4096 * bit - q) rate w5.heap.size (w.heap.size + 1) wr.heap.size r.b r.cap gx ox cap cs (w5.alloc (Obj.cells #[.int .i64 (4096 * bit - q)] 3)) Hfit2.out.1 (by rw [← Hl.out]; exact hx16) Hfit2.out.2.2.1 Hfit2.out.2.2.2 ⟨hd1, hd2⟩ ⟨by omega, by omega⟩
        (Blk.new w5 [.int .i64 (4096 * bit - q)] 3) (((Hr3.out.step hA5)).alloc _) (by rw [← Hl.out]; exact Hw5.out.alloc _) ((hcs.step hC5).alloc _) (by rw [← Hfit2.out.1]; exact hcst)
        (by omega) (by omega) (by have := hB.size; omega) (fun j hj => by
          have h0 := hcx j (by rw [Ints_length]; exact hj)
          have h1 : w.cell? ⟨gx, ox + j, none⟩ = some (.int .i64 (xs.getD j 0)) := by
            rw [h0]; simp [Ints, List.getD_eq_getElem?_getD, List.getElem?_eq_getElem hj]
          have hB5 : Below w.heap.size w (w5.alloc (Obj.cells #[.int .i64 (4096 * bit - q)] 3)) := (below_trans hB hC5).alloc (by have := hB.size; omega) _
          exact (hB5.cell (block_lt_of_cell h1)).trans h1))
      rw [← Hl.out] at HV
      have Hv6 := Lib.hid ((Hv.out.step hC5).alloc (Obj.cells #[.int .i64 (4096 * bit - q)] 3))
      have Ho6 := Lib.hid ((Ho3.out.step hA5).alloc (Obj.cells #[.int .i64 (4096 * bit - q)] 3))
      have Hown6 := Lib.hid ((ownS Hown.out hC5).alloc (Obj.cells #[.int .i64 (4096 * bit - q)] 3))
      have HR6 := Lib.hid ((HR.out.step hC5).step ((Below.refl w5.heap.size w5).alloc (Nat.le_refl _) (Obj.cells #[.int .i64 (4096 * bit - q)] 3)))
      have hB6 : Below w.heap.size w (w5.alloc (Obj.cells #[.int .i64 (4096 * bit - q)] 3)) := (below_trans hB hC5).alloc (by have := hB.size; omega) _
      have Hcs6 := Lib.hid ((hcs.step hC5).alloc (Obj.cells #[.int .i64 (4096 * bit - q)] 3))
      clear hcs hcst
      go_wp2_with fail
      refine HV.out.mono ?_
      rintro e w7 ⟨rfl, ⟨cs', hb7, hcs'⟩, hg7⟩
      have hv7 := Hv6.out.grown hg7 (by simp; omega)
      have ho7 := Ho6.out.grown hg7 (by simp; omega)
      have hown7 := Hown6.out.kept hg7 (.inr (own_apart Hown6.out Hcs6.out (by decide)))
      have hR7 := HR6.out.replace (r' := ⟨r.b, r.cap, S13.learnRow (4096 * bit - q) rate r.l xs⟩) HRr2.out hg7 ⟨hrb, by rw [S13.learnRow_length]; exact hrc1, hrc2, cs', hb7, by rw [S13.learnRow_length, Hlen.out]; exact hcs'⟩ rfl
      have hB7 : Below w.heap.size w w7 := Below.grown hB6 hg7 (by simp; have := hB.size; omega) (fun j e => by cases e; omega)
      have hR8 := hR7.other (i := 0) (v := .int .i64 n) ho7 (by decide)
      have hown8 := hown7.kept (grown_setCell w7 (w.heap.size + 2) 0 (.int .i64 n)) (.inr (own_apart hown7 ho7 (by decide)))
      have hR9 := hR8.other (i := 1) (v := .slice (some ⟨og, oo, none⟩) k ocap) (ho7.set 0 (.int .i64 n)) (by decide)
      have hown9 := hown8.kept (grown_setCell _ (w.heap.size + 2) 1 (.slice (some ⟨og, oo, none⟩) k ocap)) (.inr (own_apart hown8 (ho7.set 0 (.int .i64 n)) (by decide)))
      have hmx : MixOwn n (S13.learnL (R0.map Row13.l) c xs bit rate) (.agg #[.int .i64 n, .slice (some ⟨og, oo, none⟩) k ocap]) _ :=
        ⟨R.set c ⟨r.b, r.cap, S13.learnRow (4096 * bit - q) rate r.l xs⟩, some ⟨og, oo, none⟩, ocap, w3.heap.size + 1, by rw [or_ok_set HRr2.out, HRL.out, ← HLLv.out], by rw [List.length_set, ← Hk.out],
          by rw [List.length_set, ← Hk.out, or_head_set HRr2.out (S13.learnRow_length _ _ _ _)]; exact hown9, hR9⟩
      have v0 := hv7.cell 0
      have v1 := hv7.cell 1
      have r0 := ho7.cell 0
      have r1 := ho7.cell 1
      have f0 := ho7.free 0
      have f1 := ho7.free 1
      have s1 := ((ho7.set 0 (.int .i64 n)).set 1 (.slice (some ⟨og, oo, none⟩) k ocap)).cell 0
      have s2 := ((ho7.set 0 (.int .i64 n)).set 1 (.slice (some ⟨og, oo, none⟩) k ocap)).cell 1
      simp only [List.set_cons_zero, List.set_cons_succ, List.getElem?_cons_zero, List.getElem?_cons_succ] at v0 v1 r0 r1 s1 s2
      have Hmx := Lib.hid hmx
      clear hmx hR7 hR8 hR9 hown8 hown9 hown7 hv7 ho7 hb7 hcs' hg7
      go_wp2
      refine bodyPost_ret (v := .tuple #[.agg #[.int .i64 n, .slice (some ⟨og, oo, none⟩) k ocap], .int .i64 0]) (by simp [results, Try.results19, go_sem, s1, s2]) rfl ⟨_, rfl, ?_, ?_⟩
      · exact Hmx.out
      · exact (hB7.setCell (by simp only; omega) _).setCell (by simp only; omega) _

theorem learn13_ok (n : Int) (L : List (List Int)) (ma : Option Addr) (mc c : Nat) (xs : List Int) (a : Option Addr) (cap : Nat) (bit rate : Int) (w : World) (hV : MixIs n L (.agg #[.int .i64 n, .slice ma L.length mc]) w) (hrd : Rd w a (Ints xs))
    (hu : S13.usable 16 n L c xs = 0) (hbit : 0 ≤ bit ∧ bit ≤ 1) (hrate : 1 ≤ rate ∧ rate ≤ 255) :
    Calls Try.prog 19 #[.agg #[.int .i64 n, .slice ma L.length mc], .int .i64 c, .slice a xs.length cap, .int .i64 bit, .int .i64 rate] w fun e w' =>
      ∃ V, e = .returned (.tuple #[V, .int .i64 0]) ∧ MixIs n (S13.learnL L c xs bit rate) V w' ∧ Below w.heap.size w w' :=
  (learn13_own n L ma mc c xs a cap bit rate w hV hrd hu hbit hrate).mono fun e w' ⟨V, h1, h2, h3⟩ => ⟨V, h1, h2.mix, h3⟩
end Go.Proofs.Ytkpkkbpfcchgaaa
