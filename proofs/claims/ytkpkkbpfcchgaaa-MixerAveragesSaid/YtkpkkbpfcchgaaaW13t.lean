/- The reference Learn where nothing is wrong (layer 13). No condition. -/
import Derived.Test.YtkpkkbpfcchgaaaW13s
set_option linter.unusedSimpArgs false
set_option linter.unusedVariables false
set_option linter.unusedSectionVars false
namespace Go.Proofs.Ytkpkkbpfcchgaaa
open Go.RowKit

set_option maxHeartbeats 4000000 in
theorem refLearn13_ok (n : Int) (L : List (List Int)) (ma : Option Addr) (mc c : Nat) (xs : List Int) (a : Option Addr) (cap : Nat) (bit rate : Int) (w : World) (hV : MixIs n L (.agg #[.int .i64 n, .slice ma L.length mc]) w) (hrd : Rd w a (Ints xs))
    (hu : S13.usable 16 n L c xs = 0) (hbit : 0 ≤ bit ∧ bit ≤ 1) (hrate : 1 ≤ rate ∧ rate ≤ 255) :
    Calls Try.prog 20 #[.agg #[.int .i64 n, .slice ma L.length mc], .int .i64 c, .slice a xs.length cap, .int .i64 bit, .int .i64 rate] w fun e w' =>
      ∃ V, e = .returned (.tuple #[V, .int .i64 0]) ∧ MixIs n (S13.learnL L c xs bit rate) V w' ∧ Below w.heap.size w w' := by
  obtain ⟨k1, k2, k3, k4, k5, k6, k7⟩ := S13.usable_zero hu
  obtain ⟨q1, q2, q3, q4, q5⟩ := S13.check_zero k1
  simp only [Int.toNat_natCast] at k7
  have HU := Lib.hid fun W (hb : Below w.heap.size w W) => refMix13_any n L _ c xs a cap W (hV.step hb) (by omega) (hrd.step hb)
  have hmr : S13.mixR n L c xs = S13.mix (L.getD c []) xs := by unfold S13.mixR; rw [if_pos hu]; rfl
  rw [hu, hmr] at HU
  have HCp := Lib.hid fun W (hb : Below w.heap.size w W) => copy13_any n L _ W (hV.step hb) k1
  have HLL := Lib.hid (show S13.learnL L c xs bit rate = L.set c (S13.learnRow (4096 * bit - S06.squash (S13.mix (L.getD c []) xs)) rate (L.getD c []) xs) from rfl)
  have hsq := S06.squash_bounds (S13.mix (L.getD c []) xs)
  have HSq := Lib.hid fun W => refSquash06_any (S13.mix (L.getD c []) xs) W
  obtain ⟨q, hq⟩ : ∃ q, S06.squash (S13.mix (L.getD c []) xs) = q := ⟨_, rfl⟩
  rw [hq] at hsq HSq HLL
  obtain ⟨ws, hws⟩ : ∃ ws, L.getD c [] = ws := ⟨_, rfl⟩
  rw [hws] at HLL k7 HU HSq
  have Hws := Lib.hid hws
  have Hfit := Lib.hid k7
  have Hrd := Lib.hid hrd
  obtain ⟨gx, ox, rfl, hcx⟩ := hrd.at (i := 0) (by rw [Ints_length]; exact k5)
  have hgxl : gx < w.heap.size := block_lt_of_cell (hcx 0 (by rw [Ints_length]; exact k5))
  have Hcx := Lib.hid hcx
  obtain ⟨m, hm⟩ : ∃ m, m = L.length := ⟨_, rfl⟩
  rw [← hm] at HU HCp k3 ⊢
  have Hm := Lib.hid hm
  obtain ⟨l, hl⟩ : ∃ l, l = xs.length := ⟨_, rfl⟩
  rw [← hl] at HU k5 ⊢
  have Hl := Lib.hid hl
  have hl16 : l ≤ 16 := by omega
  have hcm : (c : Int) < m := k3
  have hc0 : (0 : Int) ≤ (c : Int) := by omega
  have hbw : (bit = 0 ∧ (bit != 0) = false) ∨ (bit = 1 ∧ (bit != 0) = true ∧ (bit != 1) = false) := by
    rcases (show bit = 0 ∨ bit = 1 by omega) with rfl | rfl
    · left; exact ⟨rfl, rfl⟩
    · right; exact ⟨rfl, rfl, rfl⟩
  have hn1 : ¬ rate < 1 := by omega
  have hn2 : ¬ 255 < rate := by omega
  have e1 : IntKind.i64.wrap (4096 * bit) = 4096 * bit := IntWalk.i64_in _ (by omega)
  have e2 : IntKind.i64.wrap (4096 * bit - q) = 4096 * bit - q := IntWalk.i64_in _ (by omega)
  have hd1 : -4096 ≤ 4096 * bit - q := by omega
  have hd2 : 4096 * bit - q ≤ 4096 := by omega
  obtain ⟨d, hdd⟩ : ∃ d, d = 4096 * bit - q := ⟨_, rfl⟩
  rw [← hdd] at e2 hd1 hd2 HLL
  have Hdd := Lib.hid hdd
  have e3 : IntKind.i64.wrap (4096 * bit - q) = d := by rw [← hdd]; exact e2
  clear hV hrd hu k1 k4 k6 k7 hmr hq hws hcx hm hl k2 q4 q5 hdd hsq e2
  rcases hbw with ⟨g0, g1⟩ | ⟨g0, g1, g2⟩
  all_goals
    clear g0
    go_enter Try.func20, Try.ntmps20
    go_wp2_with fail
    refine (HU.out _ (by go_grown)).mono ?_
    rintro e w1 ⟨rfl, hb1⟩
    have hB1 : Below w.heap.size w w1 := below_trans (by go_grown) hb1
    have Hm1 := Lib.hid (((Blk.new w [.int .i64 n, .slice ma m mc] 24).alloc (Obj.cells #[.int .i64 0, .slice none 0 0] 24)).step hb1)
    have Ho1 := Lib.hid (show Blk w1 (w.heap.size + 1) [.int .i64 0, .slice none 0 0] 24 by
      have h0 := Blk.new (w.alloc (Obj.cells #[.int .i64 n, .slice ma m mc] 24)) [.int .i64 0, .slice none 0 0] 24
      have := h0.step hb1; simpa using this)
    clear hb1
    go_wp2_with fail
    refine (HSq.out _).mono ?_
    rintro e w2 ⟨rfl, hb2⟩
    have hB2 : Below w.heap.size w w2 := below_trans hB1 hb2
    have Hm2 := Lib.hid (Hm1.out.step hb2)
    have Ho2 := Lib.hid (Ho1.out.step hb2)
    have hm20 := Hm2.out.cell 0
    have hm21 := Hm2.out.cell 1
    have hm2l := Hm2.out.lt
    simp only [List.getElem?_cons_zero, List.getElem?_cons_succ] at hm20 hm21
    clear hb2 Hm1 Ho1
    go_wp2_with fail
    refine (HCp.out _ hB2).mono ?_
    rintro e w3 ⟨R, oa, ocap, base, rfl, hRL, hbase, hown, hR, hb3⟩
    have hB3 : Below w.heap.size w w3 := below_trans hB2 hb3
    have Ho3 := Lib.hid (Ho2.out.step hb3)
    have ho3l := Ho2.out.lt
    have z3 : w2.heap.size ≤ w3.heap.size := hb3.size
    have hRm : R.length = m := by rw [Hm.out, ← hRL, List.length_map]
    have hcR : c < R.length := by omega
    obtain ⟨r, hRr⟩ : ∃ r, R[c]? = some r := ⟨R[c], List.getElem?_eq_getElem hcR⟩
    have hrl : r.l = ws := by rw [← Hws.out, ← hRL, List.getD_eq_getElem?_getD, List.getElem?_map, hRr]; rfl
    have hro := hR.1 r (List.mem_of_getElem? hRr)
    obtain ⟨og, oo, rfl, hoc⟩ := (Rd.of_owns hown).at (i := c) (by rw [List.length_map]; exact hcR)
    have hoc' : w3.cell? ⟨og, oo + c, none⟩ = some (.slice (some ⟨r.b, 0, none⟩) l r.cap) := by
      rw [hoc c (by rw [List.length_map]; exact hcR), List.getElem_map]
      have h0 : R[c] = r := by rw [List.getElem?_eq_getElem hcR] at hRr; exact Option.some.inj hRr
      rw [h0, OR13.head, hrl, Hfit.out.1, Hl.out]
    have hocl := block_lt_of_cell hoc'
    simp only at hocl
    have hogr : ¬ og = r.b := by
      intro e
      obtain ⟨_, _, _, cs, hcs, _⟩ := hro
      exact own_apart hown hcs (by decide) (by simp [Value.ownBlock, ← e])
    rw [hRm] at hown ⊢
    obtain ⟨hrb, hrc1, hrc2, cs, hcs, hcst⟩ := hro
    have hrbl := hcs.lt
    rw [hrl, Hfit.out.1, ← Hl.out] at hcst
    have Hv4 := Lib.hid (Blk.new w3 [.int .i64 n, .slice (some ⟨og, oo, none⟩) m ocap] 24)
    have Hcs := Lib.hid hcs
    have Hcst := Lib.hid hcst
    have Hown := Lib.hid hown
    have HR := Lib.hid hR
    have HRr := Lib.hid hRr
    have HRL := Lib.hid hRL
    have Hrl := Lib.hid hrl
    have HRm := Lib.hid hRm
    clear hcs hcst hown hR hRr hRL hrl hoc hRm
    obtain ⟨w4, hw4⟩ : ∃ w4, w4 = w3.alloc (Obj.cells #[.int .i64 n, .slice (some ⟨og, oo, none⟩) m ocap] 24) := ⟨_, rfl⟩
    have hA4 : Below w3.heap.size w3 w4 := by rw [hw4]; exact (Below.refl _ _).alloc (Nat.le_refl _) _
    have hB4 : Below w.heap.size w w4 := below_trans hB3 hA4
    have Hw4 := Lib.hid hw4
    have z4 : w4.heap.size = w3.heap.size + 1 := by rw [hw4]; simp
    go_wp2
    rw [← hw4]
    clear hw4
    go_loopw [16] (fun i wr => ∃ k : Nat, k ≤ l ∧ i = .int .i64 k ∧ (∃ cs', Blk wr r.b cs' 3 ∧ cs'.take l = Ints (S13.upd d rate ws xs k)) ∧ w4.grownBy wr (some r.b)) (fun i _ => l - (intOf i).toNat)
    case atStart => exact ⟨0, by omega, rfl, ⟨cs, Hcs.out.step hA4, by rw [S13.upd_zero]; exact Hcst.out⟩, World.grownBy.refl _ _⟩
    case round =>
      obtain ⟨k, hk, rfl, ⟨cs', hc1, hc2⟩, hg⟩ := hrel
      have zr : w4.heap.size ≤ wr.heap.size := hg.size
      have Hc1 := Lib.hid hc1
      have Hc2 := Lib.hid hc2
      have Hg := Lib.hid hg
      have hv := (by rw [Hw4.out]; exact Hv4.out : Blk w4 w3.heap.size [.int .i64 n, .slice (some ⟨og, oo, none⟩) m ocap] 24).grown hg (by simp; omega)
      have Hv := Lib.hid hv
      have hv0 := hv.cell 0
      have hv1 := hv.cell 1
      simp only [List.getElem?_cons_zero, List.getElem?_cons_succ] at hv0 hv1
      have hocr : wr.cell? ⟨og, oo + c, none⟩ = some (.slice (some ⟨r.b, 0, none⟩) l r.cap) := hg.cell ((hA4.cell (p := ⟨og, oo + c, none⟩) hocl).trans hoc') (by simp; omega)
      clear hc1 hc2 hg hv
      by_cases hlt : k < l
      · have hlt2 : (k : Int) < l := by omega
        have hk0 : (0 : Int) ≤ (k : Int) := by omega
        have hws : ws.length = l := by rw [Hfit.out.1, Hl.out]
        have hxw : wr.cell? ⟨gx, ox + k, none⟩ = some (.int .i64 (xs.getD k 0)) := by
          have h0 := Hcx.out k (by rw [Ints_length, ← Hl.out]; exact hlt)
          have h1 : w.cell? ⟨gx, ox + k, none⟩ = some (.int .i64 (xs.getD k 0)) := by
            rw [h0]; simp [Ints, List.getD_eq_getElem?_getD, List.getElem?_eq_getElem (show k < xs.length by rw [← Hl.out]; exact hlt)]
          exact Hg.out.cell ((hB4.cell (p := ⟨gx, ox + k, none⟩) hgxl).trans h1) (by simp; omega)
        have hww : wr.cell? ⟨r.b, k, none⟩ = some (.int .i64 (ws.getD k 0)) := by
          rw [Hc1.out.cell]
          have h5 : (cs'.take l)[k]? = some (.int .i64 (ws.getD k 0)) := by
            rw [Hc2.out, Ints, List.getElem?_map, S13.upd_at d rate ws xs (by omega)]; rfl
          rw [List.getElem?_take, if_pos hlt] at h5
          exact h5
        have hbx := S13.getD_mem (P := fun x => -3071 ≤ x ∧ x ≤ 3071) Hfit.out.2.2.2 (k := k) (by rw [← Hl.out]; exact hlt)
        have hbw := S13.getD_mem (P := fun x => -1048576 ≤ x ∧ x ≤ 1048576) Hfit.out.2.2.1 (k := k) (by omega)
        have Hus := Lib.hid (S13.upd_succ d rate ws xs (k := k) (by omega) Hfit.out.1)
        generalize xs.getD k 0 = x at *
        generalize ws.getD k 0 = wt at *
        obtain ⟨⟨p1, p2⟩, p3, p4⟩ := S13.prod_abs hbx ⟨hd1, hd2⟩ (show 0 ≤ rate ∧ rate ≤ 255 by omega)
        have hrb2 := S06.round_abs (n := x * d * rate) (d := 16384) (B := 3207598080) (by omega) (by omega) (by omega)
        have HRd := Lib.hid fun W => refRound06_any (x * d * rate) 16384 W (by omega) (by omega) (by omega) (by omega)
        have Hlw := Lib.hid (show S13.lw d rate wt x = max (-1048576) (min (wt + S06.round (x * d * rate) 16384) 1048576) from rfl)
        have f1 : IntKind.i64.wrap (x * d) = x * d := IntWalk.i64_in _ (by omega)
        have f2 : IntKind.i64.wrap (x * d * rate) = x * d * rate := IntWalk.i64_in _ (by omega)
        have f3 : IntKind.i64.wrap (wt + S06.round (x * d * rate) 16384) = wt + S06.round (x * d * rate) 16384 := IntWalk.i64_in _ (by omega)
        generalize S06.round (x * d * rate) 16384 = rd at *
        have hfr : wr.frozen? ⟨r.b, k, none⟩ = false := Hc1.out.free k
        have hrw := Hc1.out.lt
        have hocl2 : og < wr.heap.size := block_lt_of_cell hocr
        have hvl := Hv.out.lt
        go_wp2
        refine wp_region_all 19 (Keeps wr [(⟨w3.heap.size, 1, none⟩, .slice (some ⟨og, oo, none⟩) m ocap), (⟨og, oo + c, none⟩, .slice (some ⟨r.b, 0, none⟩) l r.cap), (⟨r.b, k, none⟩, .int .i64 wt), (⟨gx, ox + k, none⟩, .int .i64 x)]) (by kernel_rfl) rfl (by kernel_rfl) (Keeps.start (by simp only [Cells]; exact ⟨hv1, hocr, hww, hxw, trivial⟩)) (fun Y F hY hF => ?_)
        repeat
          apply wpSteady_value (by first | rfl | (rw [hY]; rfl))
          · intro w2 ⟨hB2, hk2⟩
            simp only [Cells] at hk2
            go_simp
            with_reducible rfl
          simp only [Act.put, List.setIfInBounds_toArray, List.set_cons_zero, List.set_cons_succ]
        apply wpSteady_call (by first | rfl | (rw [hY]; rfl))
        · intro w2 ⟨hB2, hk2⟩
          simp only [Cells] at hk2
          go_simp
          with_reducible exact ⟨rfl, rfl⟩
        · intro w2 hS2
          have hk2 := hS2.2
          simp only [Cells] at hk2
          refine (HRd.out _).mono ?_
          rintro e w3 ⟨rfl, hb3⟩
          exact ⟨rfl, hS2.step hb3⟩
        simp only [Act.put, List.setIfInBounds_toArray, List.set_cons_zero, List.set_cons_succ]
        repeat
          apply wpSteady_value (by first | rfl | (rw [hY]; rfl))
          · intro w2 ⟨hB2, hk2⟩
            simp only [Cells] at hk2
            go_simp
            with_reducible rfl
          simp only [Act.put, List.setIfInBounds_toArray, List.set_cons_zero, List.set_cons_succ]
        refine hF.out _ (fun w5 hS5 => ?_)
        clear hF hY
        have hC5 := hS5.1
        have hv15 := (hC5.cell (p := ⟨w3.heap.size, 1, none⟩) hvl).trans hv1
        have hoc5 := (hC5.cell (p := ⟨og, oo + c, none⟩) hocl2).trans hocr
        have hww5 := (hC5.cell (p := ⟨r.b, k, none⟩) hrw).trans hww
        have hfr5 : w5.frozen? ⟨r.b, k, none⟩ = false := (hC5.frozen (p := ⟨r.b, k, none⟩) hrw).trans hfr
        have z5 : wr.heap.size ≤ w5.heap.size := hC5.size
        have HC5 := Lib.hid hC5
        clear hS5
        go_wp2
        go_roundw
        case rel =>
          refine ⟨k + 1, by omega, by go_num, ⟨cs'.set k (.int .i64 (S13.lw d rate wt x)), ?_, ?_⟩, ?_⟩
          · rw [Hlw.out]; exact (Hc1.out.step HC5.out).set k _
          · rw [List.take_set, Hc2.out, ← Ints_set13, Hus.out]
          · exact (Hg.out.trans (below_grown HC5.out _)).trans (grown_setCell w5 r.b k _)
        case measure => simp [intOf]; omega
      · obtain rfl : k = l := by omega
        have hwsl : ws.length = k := by rw [Hfit.out.1, Hl.out]
        have hc2 := Hc2.out
        rw [show S13.upd d rate ws xs k = S13.learnRow d rate ws xs by rw [← hwsl, S13.upd_all]] at hc2
        have ho7 := ((Ho3.out.step hA4).grown Hg.out (by simp; omega))
        have hown7 := (ownS Hown.out hA4).kept Hg.out (.inr (own_apart (ownS Hown.out hA4) (Hcs.out.step hA4) (by decide)))
        have hR7 := (HR.out.step hA4).replace (r' := ⟨r.b, r.cap, S13.learnRow d rate ws xs⟩) HRr.out Hg.out ⟨hrb, by rw [S13.learnRow_length, ← Hrl.out]; exact hrc1, hrc2, cs', Hc1.out, by rw [S13.learnRow_length, hwsl]; exact hc2⟩ rfl
        have hB7 : Below w.heap.size w wr := Below.grown hB4 Hg.out (by omega) (fun j e => by cases e; omega)
        have hR8 := hR7.other (i := 0) (v := .int .i64 n) ho7 (by decide)
        have hown8 := hown7.kept (grown_setCell wr (w.heap.size + 1) 0 (.int .i64 n)) (.inr (own_apart hown7 ho7 (by decide)))
        have hR9 := hR8.other (i := 1) (v := .slice (some ⟨og, oo, none⟩) m ocap) (ho7.set 0 (.int .i64 n)) (by decide)
        have hown9 := hown8.kept (grown_setCell _ (w.heap.size + 1) 1 (.slice (some ⟨og, oo, none⟩) m ocap)) (.inr (own_apart hown8 (ho7.set 0 (.int .i64 n)) (by decide)))
        have hmx := hR9.mix (n := n) (a := some ⟨og, oo, none⟩) (cap := ocap) (by rw [List.length_set, HRm.out, or_head_set HRr.out (by rw [S13.learnRow_length, Hrl.out])]; exact hown9)
        rw [or_ok_set HRr.out, HRL.out, List.length_set, HRm.out, ← HLL.out] at hmx
        have r0 := ho7.cell 0
        have r1 := ho7.cell 1
        have f0 := ho7.free 0
        have f1 := ho7.free 1
        have s1 := ((ho7.set 0 (.int .i64 n)).set 1 (.slice (some ⟨og, oo, none⟩) m ocap)).cell 0
        have s2 := ((ho7.set 0 (.int .i64 n)).set 1 (.slice (some ⟨og, oo, none⟩) m ocap)).cell 1
        simp only [List.set_cons_zero, List.set_cons_succ, List.getElem?_cons_zero, List.getElem?_cons_succ] at r0 r1 s1 s2
        have Hmx := Lib.hid hmx
        clear hmx hR7 hR8 hR9 hown8 hown9 hown7 ho7 hc2
        go_wp2
        refine bodyPost_ret (v := .tuple #[.agg #[.int .i64 n, .slice (some ⟨og, oo, none⟩) m ocap], .int .i64 0]) (by simp [results, Try.results20, go_sem, s1, s2]) rfl ⟨_, rfl, ?_, ?_⟩
        · exact Hmx.out
        · exact (hB7.setCell (by simp only; omega) _).setCell (by simp only; omega) _

theorem refLearn13_any (n : Int) (L : List (List Int)) (V : Value) (c : Int) (xs : List Int) (a : Option Addr) (cap : Nat) (bit rate : Int) (w : World) (hV : MixIs n L V w) (hlen : xs.length ≤ 9223372036854775807) (hrd : Rd w a (Ints xs)) :
    Calls Try.prog 20 #[V, .int .i64 c, .slice a xs.length cap, .int .i64 bit, .int .i64 rate] w fun e w' =>
      ∃ V', e = .returned (.tuple #[V', .int .i64 (S13.learnE n L c xs bit rate)]) ∧ MixIs (S13.learnN n L c xs bit rate) (S13.learnLL n L c xs bit rate) V' w' ∧ Below w.heap.size w w' := by
  by_cases he : S13.learnE n L c xs bit rate = 0
  · have e1 : S13.learnN n L c xs bit rate = n := by unfold S13.learnN; rw [if_pos he]
    have e2 : S13.learnLL n L c xs bit rate = S13.learnL L c.toNat xs bit rate := by unfold S13.learnLL; rw [if_pos he]
    rw [he, e1, e2]
    obtain ⟨hu, hb, hr1, hr2⟩ := S13.learnE_zero he
    obtain ⟨c, rfl⟩ := Int.eq_ofNat_of_zero_le (S13.usable_zero hu).2.1
    obtain ⟨ma, mc, rfl, m1, m2, hM⟩ := mixOpen hV
    exact refLearn13_ok n L ma mc c xs a cap bit rate w hM hrd hu (by omega) ⟨hr1, hr2⟩
  · have e1 : S13.learnN n L c xs bit rate = 0 := by unfold S13.learnN; rw [if_neg he]
    have e2 : S13.learnLL n L c xs bit rate = [] := by unfold S13.learnLL; rw [if_neg he]
    rw [e1, e2]
    exact refLearn13_err n L V c xs a cap bit rate w hV hlen hrd he
end Go.Proofs.Ytkpkkbpfcchgaaa
