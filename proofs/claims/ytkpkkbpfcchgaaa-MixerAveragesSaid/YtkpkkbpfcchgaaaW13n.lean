/- Copies of mixers (layer 13). No condition. -/
import Derived.Test.YtkpkkbpfcchgaaaW13m
import Derived.Lib.MinMax
set_option linter.unusedSimpArgs false
set_option linter.unusedVariables false
set_option linter.unusedSectionVars false
namespace Go.Proofs.Ytkpkkbpfcchgaaa
open Go.RowKit

theorem OR13.set_b {R : List OR13} {c : Nat} {r r' : OR13} (hc : R[c]? = some r) (hb : r'.b = r.b) {i : Nat} (h : i < (R.set c r').length) : ((R.set c r')[i]).b = (R[i]'(by simpa using h)).b := by
  rw [List.getElem_set]
  split
  · rename_i e
    subst e
    obtain ⟨hlt, hrc⟩ := List.getElem?_eq_some_iff.1 hc
    rw [hb, hrc]
  · rfl
theorem ORs.replace {w w' : World} {base : Nat} {R : List OR13} {c : Nat} {r r' : OR13} (h : ORs w base R) (hc : R[c]? = some r) (hg : w.grownBy w' (some r.b)) (hr : r'.ok w' base) (hb : r'.b = r.b) : ORs w' base (R.set c r') := by
  obtain ⟨hlt, hrc⟩ := List.getElem?_eq_some_iff.1 hc
  have hp := List.pairwise_iff_getElem.1 h.2
  refine ⟨fun x hx => ?_, List.pairwise_iff_getElem.2 fun i j hi hj hij => ?_⟩
  · obtain ⟨i, hi, rfl⟩ := List.getElem_of_mem hx
    rw [List.getElem_set]
    split
    · exact hr
    · rename_i hne
      have hi' : i < R.length := by simpa using hi
      have hxb : R[i].b ≠ r.b := by
        rw [← hrc]
        rcases Nat.lt_or_gt_of_ne hne with h1 | h1
        · have := hp c i hlt hi' h1; omega
        · have := hp i c hi' hlt h1; omega
      obtain ⟨h1, h2, h3, cs, h4, h5⟩ := h.1 _ (List.getElem_mem hi')
      exact ⟨h1, h2, h3, cs, h4.grown hg (fun e => hxb (by simpa using e)), h5⟩
  · rw [OR13.set_b hc hb hi, OR13.set_b hc hb hj]
    exact hp i j (by simpa using hi) (by simpa using hj) hij
theorem below_grown {w w' : World} (h : Below w.heap.size w w') (row : Option Nat) : w.grownBy w' row := ⟨h.os, h.tape, h.output, h.size, fun k hk _ => h.block k hk⟩

set_option maxHeartbeats 400000 in
/-- A copy of a list of numbers that is not empty. -/
theorem clone13_any (xs : List Int) (a : Option Addr) (cap : Nat) (w : World) (h1 : 1 ≤ xs.length) (h2 : xs.length ≤ 2162688) (hrd : Rd w a (Ints xs)) :
    Calls Try.prog 32 #[.slice a xs.length cap] w fun e w' => ∃ r : OR13, e = .returned r.head ∧ r.l = xs ∧ w.heap.size ≤ r.b ∧ r.ok w' w.heap.size ∧ Below w.heap.size w w' := by
  obtain ⟨g, o, rfl, _⟩ := hrd.at (i := 0) (by rw [Ints_length]; omega)
  have qT : ∀ (w : World) (a : Option Addr) (n c n' c' : Nat), (binOp .eql 36 (.slice a n c) (.slice none n' c')).run Try.prog w = .ok (.bool a.isNone) w := fun w a n c n' c' => Lib.run_eql_slice_nil w _ _ a n c n' c' Try.underlying36
  have hrd' := Lib.hid (hrd.step ((Below.refl w.heap.size w).alloc (Nat.le_refl _) (Obj.cells #[] 3)))
  go_enter Try.func32, Try.ntmps32
  go_wp2_with (at_builtin; refine wpList_append_rd _ _ 36 3 1 8 _ w.heap.size elems_ints rfl rfl _ 0 [] rfl (World.ownsRow_made w #[] 0 (Nat.le_refl _) (by decide) rfl) (some ⟨g, o, none⟩) xs.length cap (Ints xs) rfl (by simp [Ints]) hrd'.out (Ints_one xs) (by unfold maxLen; omega) (by omega) (by simp) ?_; intro a2 cap2 w2 hown2 hgrow2)
  have hB2 : Below w.heap.size w w2 := Below.grown (by go_grown) hgrow2 (by simp) (fun k e => by cases e; exact Nat.le_refl _)
  simp only [Nat.zero_add, List.nil_append] at hown2
  obtain ⟨b, rfl, hb, hok⟩ := or_of_owns (base' := w.heap.size) hown2 h1 (Nat.le_refl _)
  have hc := Lib.hid hok
  clear hgrow2 hown2 hok
  go_wp2
  go_returns
  exact ⟨⟨b, cap2, xs⟩, by simp [OR13.head], rfl, hb, hc.out, hB2⟩

theorem S13.row_le {n : Int} {L : List (List Int)} (h : S13.check 16 n L = 0) {R : List Row13} (hR : L = R.map Row13.l) {r : Row13} (hr : r ∈ R) : (r.l.length : Int) = n := (S13.check_zero h).2.2.2.2 r.l (by rw [hR]; exact List.mem_map.2 ⟨r, hr, rfl⟩) |>.1

set_option maxHeartbeats 2000000 in
theorem copy13_any (n : Int) (L : List (List Int)) (V : Value) (w : World) (hV : MixIs n L V w) (hck : S13.check 16 n L = 0) :
    Calls Try.prog 38 #[V] w fun e w' => ∃ (R : List OR13) (a : Option Addr) (cap base : Nat), e = .returned (.agg #[.int .i64 n, .slice a R.length cap]) ∧ R.map OR13.l = L ∧ w.heap.size ≤ base ∧ w'.ownsRow base 36 1 (.slice a R.length cap) R.length (R.map OR13.head) ∧ ORs w' base R ∧ Below w.heap.size w w' := by
  obtain ⟨k1, k2, k3, k4, k5⟩ := S13.check_zero hck
  obtain ⟨R0, ra, rc, rfl, rfl, h1, h2, hrm, hok⟩ := hV
  rw [List.length_map] at k3 k4
  obtain ⟨m, hm⟩ : ∃ m, m = R0.length := ⟨_, rfl⟩
  rw [← hm] at k3 k4 h1 ⊢
  have Hm := Lib.hid hm
  have Hrm := Lib.hid hrm
  have Hok := Lib.hid hok
  have Hk5 := Lib.hid k5
  clear hm hrm hok k5 hck
  go_enter Try.func38, Try.ntmps38
  go_wp2
  obtain ⟨w0, hw0⟩ : ∃ w0, w0 = ((w.alloc (Obj.cells #[.int .i64 n, .slice ra m rc] 24)).alloc (Obj.cells #[.int .i64 0, .slice none 0 0] 24)).alloc (Obj.cells #[.int .i64 n, .slice none 0 0] 24) := ⟨_, rfl⟩
  have Ha0 := Lib.hid (show Blk w0 w.heap.size [.int .i64 n, .slice ra m rc] 24 by rw [hw0]; exact ((Blk.new w _ _).alloc _).alloc _)
  have Hres0 := Lib.hid (show Blk w0 (w.heap.size + 1) [.int .i64 0, .slice none 0 0] 24 by
    have := (Blk.new (w.alloc (Obj.cells #[.int .i64 n, .slice ra m rc] 24)) [.int .i64 0, .slice none 0 0] 24).alloc (Obj.cells #[.int .i64 n, .slice none 0 0] 24)
    rw [hw0]; simpa using this)
  have Hv0 := Lib.hid (show Blk w0 (w.heap.size + 2) [.int .i64 n, .slice none 0 0] 24 by
    have := Blk.new ((w.alloc (Obj.cells #[.int .i64 n, .slice ra m rc] 24)).alloc (Obj.cells #[.int .i64 0, .slice none 0 0] 24)) [.int .i64 n, .slice none 0 0] 24
    rw [hw0]; simpa using this)
  have hBw0 : Below w.heap.size w w0 := by rw [hw0]; go_grown
  rw [← hw0]
  clear hw0
  go_loopw [4] (fun i wr => ∃ (R : List OR13) (a : Option Addr) (cap : Nat), R.length ≤ m ∧ i = .int .i64 R.length ∧ R.map OR13.l = (R0.map Row13.l).take R.length ∧ Blk wr (w.heap.size + 2) [.int .i64 n, .slice a R.length cap] 24 ∧
      wr.ownsRow (w.heap.size + 3) 36 1 (.slice a R.length cap) R.length (R.map OR13.head) ∧ ORs wr (w.heap.size + 3) R ∧ Blk wr (w.heap.size + 1) [.int .i64 0, .slice none 0 0] 24 ∧ Blk wr w.heap.size [.int .i64 n, .slice ra m rc] 24 ∧ Below w.heap.size w wr) (fun i _ => m - (intOf i).toNat)
  case atStart => exact ⟨[], none, 0, by simp, rfl, by simp, Hv0.out, World.ownsRow_nil _ _ _ _, ⟨by simp, List.Pairwise.nil⟩, Hres0.out, Ha0.out, hBw0⟩
  case round =>
    obtain ⟨R, a, cap, hRm, rfl, hall, hv, hown, hR, hres, ha, hB⟩ := hrel
    have zv := hv.lt
    obtain ⟨k, hk⟩ : ∃ k, k = R.length := ⟨_, rfl⟩
    rw [← hk] at hv hown hRm hall ⊢
    have Hv := Lib.hid hv
    have Hown := Lib.hid hown
    have HR := Lib.hid hR
    have Hres := Lib.hid hres
    have Hall := Lib.hid hall
    have Hk := Lib.hid hk
    have Ha := Lib.hid ha
    have hv1 := hv.cell 1
    have ha1 := ha.cell 1
    simp only [List.getElem?_cons_zero, List.getElem?_cons_succ] at hv1 ha1
    clear hv hown hR hres hall hk ha
    by_cases hlt : k < m
    · have hlt2 : (k : Int) < m := by omega
      have hk0 : (0 : Int) ≤ (k : Int) := by omega
      obtain ⟨r, g, o, hRr, hra, hcell, hro, hgl⟩ := row13_at Hrm.out Hok.out (k := k) (by rw [← Hm.out]; exact hlt)
      rw [hra] at Ha Ha0 ha1 ⊢
      have hcw : wr.cell? ⟨g, o + k, none⟩ = some (.slice r.a r.l.length r.cap) := (hB.cell (block_lt_of_cell hcell)).trans hcell
      have hrl : (r.l.length : Int) = n := (Hk5.out r.l (List.mem_map.2 ⟨r, List.mem_of_getElem? hRr, rfl⟩)).1
      have hrd := hro.2.2.step hB
      have HRr := Lib.hid (show (R0.map Row13.l).take (k + 1) = (R0.map Row13.l).take k ++ [r.l] by rw [List.take_add_one, List.getElem?_map, hRr]; rfl)
      have Hrd := Lib.hid hrd
      clear hRr hro hgl hrd
      have hgb := block_lt_of_cell hcell
      simp only at hgb
      obtain ⟨q, hq⟩ : ∃ q, q = r.l.length := ⟨_, rfl⟩
      rw [← hq] at hrl hcw hcell
      have hq16 : 1 ≤ q ∧ q ≤ 16 := by omega
      have Hq := Lib.hid hq
      clear hq
      go_wp2_with fail
      refine wp_region_chain 11 2 [true, true, true, true, true, true, true, true, false, false, false] [false, false, false, false, false, false, false, false, true, true, true] _ _ (fun w' => Cells w' [(⟨w.heap.size + 2, 1, none⟩, .slice a k cap), (⟨w.heap.size, 1, none⟩, .slice (some ⟨g, o, none⟩) m rc), (⟨g, o + k, none⟩, .slice r.a q r.cap)]) (by kernel_rfl) (List.take_append_drop 11 _).symm rfl rfl (by kernel_rfl) (by kernel_rfl) (by kernel_rfl) (by simp only [Cells]; exact ⟨hv1, ha1, hcw, trivial⟩) (fun Y Q4 F4 hY hF => ?_)
      simp only [List.take_succ_cons, List.take_zero, List.drop_succ_cons, List.drop_zero, sel_true, sel_false, sel_nil]
      repeat
        apply wpReads_value (by first | rfl | (rw [hY]; rfl))
        · intro w2 hS2
          (try simp only [Cells] at hS2)
          go_simp
          with_reducible rfl
        simp only [Act.put, List.setIfInBounds_toArray, List.set_cons_zero, List.set_cons_succ]
      refine wpReads_done ?_
      refine wpChain_append (.tmp 18) (.tmp 23) 36 3 1 8 _ wr.heap.size elems_ints (.slice none 0 0) 0 [] r.a q r.cap (Ints r.l) (by first | rfl | (rw [hY]; rfl)) rfl rfl rfl (by rw [Ints_length, ← Hq.out]; omega)
        (Ints_one _) (by unfold maxLen; omega) (by omega) (World.ownsRow_nil _ _ _ _) (Hrd.out.step (Below.refl _ _).drew) (Nat.le_refl _) ?_
      intro a3 cap3 w3 hown3 hgrow3
      simp only [Nat.zero_add, List.nil_append] at hown3 ⊢
      have hB3 : Below wr.heap.size wr w3 := Below.grown (B := wr.heap.size) ((Below.refl _ _).drew) hgrow3 (by simp) (fun j e => by cases e)
      obtain ⟨b3, rfl, hb3, hok3⟩ := or_of_owns (base' := w.heap.size + 3) (l := r.l) (by rw [← Hq.out]; exact hown3) (by rw [← Hq.out]; omega) (by omega)
      have hz3 : b3 < w3.heap.size := hok3.lt
      have kv3 := Hv.out.step hB3
      have ka3 := Ha.out.step hB3
      have kc3 := kv3.cell 1
      have kd3 := ka3.cell 1
      have ke3 := (hB3.cell (block_lt_of_cell hcw)).trans hcw
      simp only [List.getElem?_cons_zero, List.getElem?_cons_succ] at kc3 kd3
      refine ⟨by simp only [Cells]; exact ⟨kc3, kd3, ke3, trivial⟩, ?_⟩
      simp only [Act.put, List.setIfInBounds_toArray, List.set_cons_zero, List.set_cons_succ]
      have kv4 := kv3.alloc (Obj.cells #[.slice (some ⟨b3, 0, none⟩) q cap3] 36)
      have ka4 := ka3.alloc (Obj.cells #[.slice (some ⟨b3, 0, none⟩) q cap3] 36)
      have kc4 := kv4.cell 1
      have kd4 := ka4.cell 1
      have ke4 : (w3.alloc (Obj.cells #[.slice (some ⟨b3, 0, none⟩) q cap3] 36)).cell? ⟨g, o + k, none⟩ = some (.slice r.a q r.cap) := (((Below.refl w3.heap.size w3).alloc (Nat.le_refl _) _).cell (block_lt_of_cell ke3)).trans ke3
      simp only [List.getElem?_cons_zero, List.getElem?_cons_succ] at kc4 kd4
      refine wpChain_value (by first | rfl | (rw [hY]; rfl)) (by go_simp; first | with_reducible exact ⟨rfl, rfl⟩ | with_reducible rfl) (by simp only [Cells]; exact ⟨kc4, kd4, ke4, trivial⟩) ?_
      simp only [Act.put, List.setIfInBounds_toArray, List.set_cons_zero, List.set_cons_succ]
      have hown4 := (ownS Hown.out hB3).alloc (Obj.cells #[.slice (some ⟨b3, 0, none⟩) q cap3] 36)
      have zB3 : wr.heap.size ≤ w3.heap.size := hB3.size
      refine wpChain_append (.tmp 17) (.tmp 25) 22 36 1 24 _ (w.heap.size + 3) elems_rows (.slice a k cap) k (R.map OR13.head) (some ⟨w3.heap.size, 0, none⟩) 1 1 [.slice (some ⟨b3, 0, none⟩) q cap3] (by first | rfl | (rw [hY]; rfl)) rfl rfl rfl rfl
        (by simp [Value.oneCell']) (by unfold maxLen; omega) (by omega) hown4 (Rd.new w3 [.slice (some ⟨b3, 0, none⟩) q cap3] 36) (by simp; omega) ?_
      intro a5 cap5 w5 hown5 hgrow5
      have kv5 := kv4.grown hgrow5 (Ne.symm (own_apart hown4 kv4 (by decide)))
      have ka5 := ka4.grown hgrow5 (Ne.symm (own_apart hown4 ka4 (by decide)))
      have kc5 := kv5.cell 1
      have kd5 := ka5.cell 1
      have kf5 := kv5.free 1
      have hB5 : Below w.heap.size w w5 := Below.grown ((below_trans hB hB3).alloc (by omega) _) hgrow5 (by simp; omega) (fun j e => by have := (owns_block hown4 e).1; omega)
      have ke5 : w5.cell? ⟨g, o + k, none⟩ = some (.slice r.a q r.cap) := (hB5.cell (p := ⟨g, o + k, none⟩) hgb).trans hcell
      simp only [List.getElem?_cons_zero, List.getElem?_cons_succ] at kc5 kd5
      refine ⟨by simp only [Cells]; exact ⟨kc5, kd5, ke5, trivial⟩, ?_⟩
      simp only [Act.put, List.setIfInBounds_toArray, List.set_cons_zero, List.set_cons_succ]
      have hR4 := (HR.out.snoc hB3 hok3 hb3).step ((Below.refl w3.heap.size w3).alloc (Nat.le_refl _) (Obj.cells #[.slice (some ⟨b3, 0, none⟩) q cap3] 36))
      have hR5 := hR4.grown hown4 (by decide) hgrow5
      have hres3 := (Hres.out.step hB3).alloc (Obj.cells #[.slice (some ⟨b3, 0, none⟩) q cap3] 36)
      have hres5 := hres3.grown hgrow5 (Ne.symm (own_apart hown4 hres3 (by decide)))
      have Hv6 := Lib.hid (kv5.set 1 (.slice a5 (k + 1) cap5))
      have Hown6 := Lib.hid (hown5.kept (grown_setCell w5 (w.heap.size + 2) 1 (.slice a5 (k + 1) cap5)) (.inr (own_apart hown5 kv5 (by decide))))
      have HR6 := Lib.hid (hR5.other (i := 1) (v := .slice a5 (k + 1) cap5) kv5 (by decide))
      have Hres6 := Lib.hid (hres5.other (w.heap.size + 2) 1 (.slice a5 (k + 1) cap5) (by omega))
      have Ha6 := Lib.hid (ka5.other (w.heap.size + 2) 1 (.slice a5 (k + 1) cap5) (by omega))
      have hB6 : Below w.heap.size w (w5.setCell ⟨w.heap.size + 2, 1, none⟩ (.slice a5 (k + 1) cap5)) := hB5.setCell (by simp only; omega) _
      clear hgrow5 hown5 hown4 kv3 kv4 kv5 ka3 ka4 ka5 hR4 hR5 hres3 hres5 hok3 hgrow3 hown3
      refine wpChain_done (hF.out _ _ (fun K hK => ?_))
      clear hF hY
      go_wp2_with fail
      refine OnlyK.mk (hK.out _ _ ?_)
      go_wp2
      go_roundw
      case rel =>
        refine ⟨R ++ [⟨b3, cap3, r.l⟩], a5, cap5, by rw [List.length_append, ← Hk.out]; simp; omega, by rw [List.length_append, ← Hk.out]; go_num, ?_, ?_, ?_, HR6.out, Hres6.out, Ha6.out, hB6⟩
        · rw [List.map_append, Hall.out, List.length_append, ← Hk.out]
          exact HRr.out.symm
        · rw [List.length_append, ← Hk.out]; exact Hv6.out
        · have := Hown6.out
          rw [List.length_append, ← Hk.out, List.map_append]
          simpa [OR13.head, ← Hq.out] using this
      case measure => simp [intOf]; omega
    · obtain rfl : k = m := by omega
      have hres := Hres.out
      have hR1 := HR.out.other (i := 0) (v := .int .i64 n) hres (by decide)
      have hown1 := Hown.out.kept (grown_setCell wr (w.heap.size + 1) 0 (.int .i64 n)) (.inr (own_apart Hown.out hres (by decide)))
      have hR2 := hR1.other (i := 1) (v := .slice a k cap) (hres.set 0 (.int .i64 n)) (by decide)
      have hown2 := hown1.kept (grown_setCell _ (w.heap.size + 1) 1 (.slice a k cap)) (.inr (own_apart hown1 (hres.set 0 (.int .i64 n)) (by decide)))
      have v0 := Hv.out.cell 0
      have v1 := Hv.out.cell 1
      have r0 := hres.cell 0
      have r1 := hres.cell 1
      have f0 := hres.free 0
      have f1 := hres.free 1
      have s1 := ((hres.set 0 (.int .i64 n)).set 1 (.slice a k cap)).cell 0
      have s2 := ((hres.set 0 (.int .i64 n)).set 1 (.slice a k cap)).cell 1
      simp only [List.set_cons_zero, List.set_cons_succ, List.getElem?_cons_zero, List.getElem?_cons_succ] at v0 v1 r0 r1 s1 s2
      have HR2 := Lib.hid hR2
      have Hown2 := Lib.hid hown2
      clear hres hR1 hown1 hR2 hown2
      go_wp2
      refine bodyPost_ret (v := .agg #[.int .i64 n, .slice a k cap]) (by simp [results, Try.results38, go_sem, s1, s2]) rfl ⟨R, a, cap, w.heap.size + 3, by rw [← Hk.out], ?_, by omega, ?_, HR2.out, ?_⟩
      · rw [Hall.out, Hm.out, ← List.length_map (f := Row13.l), List.take_length]
      · rw [← Hk.out]; exact Hown2.out
      · exact (hB.setCell (by simp only; omega) _).setCell (by simp only; omega) _
end Go.Proofs.Ytkpkkbpfcchgaaa
