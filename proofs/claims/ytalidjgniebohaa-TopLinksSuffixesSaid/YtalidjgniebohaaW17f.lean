/- The first rows of the bytes (layer 33). No condition. -/
import Derived.Test.YtalidjgniebohaaW17e
import Derived.Test.YtalidjgniebohaaBase18
set_option linter.unusedSimpArgs false
set_option linter.unusedVariables false
set_option linter.unusedSectionVars false
namespace Go.Proofs.Ytalidjgniebohaa
open Go.RowKit Go.Shelf

/-- How often each byte occurs. -/
def S17.tally (b : List Int) (c : Nat) : Nat := b.countP fun x => decide (x = (c : Int))
/-- How many bytes are less. -/
def S17.lower (b : List Int) (c : Nat) : Nat := b.countP fun x => decide (x < (c : Int))
theorem S17.tally_snoc (b : List Int) (x : Int) (c : Nat) : S17.tally (b ++ [x]) c = S17.tally b c + if x = (c : Int) then 1 else 0 := by
  unfold S17.tally; rw [List.countP_append, List.countP_singleton]; simp
theorem S17.lower_succ (b : List Int) (c : Nat) : S17.lower b (c + 1) = S17.lower b c + S17.tally b c := by
  unfold S17.lower S17.tally
  rw [← S17.countP_or]
  · refine List.countP_congr fun q _ => ?_
    simp only [Bool.or_eq_true, decide_eq_true_eq]; omega
  · rintro q _ ⟨h1, h2⟩
    simp only [decide_eq_true_eq] at h1 h2; omega
theorem S17.lower_zero {b : List Int} (hb : ∀ x ∈ b, 0 ≤ x) : S17.lower b 0 = 0 := by
  unfold S17.lower
  rw [List.countP_eq_zero]
  intro q hq
  have := hb q hq
  simp; omega
theorem S17.tally_le (b : List Int) (c : Nat) : S17.tally b c ≤ b.length := List.countP_le_length
theorem S17.lower_le (b : List Int) (c : Nat) : S17.lower b c ≤ b.length := List.countP_le_length
theorem take_snoc {b : List Int} {k : Nat} (hk : k < b.length) : b.take (k + 1) = b.take k ++ [b.getD k 0] := by
  rw [List.take_succ_eq_append_getElem hk, List.getD_eq_getElem?_getD, List.getElem?_eq_getElem hk]; rfl

theorem ints_row {xs : List Int} : ∀ v ∈ Ints xs, v.oneCell' = true := by
  intro v hv
  unfold Ints at hv
  obtain ⟨x, _, rfl⟩ := List.mem_map.1 hv
  rfl


def zz : Array Value := (Ints (List.replicate 256 0)).toArray
set_option maxRecDepth 100000 in
theorem zero256 (w : World) : (zeroValue 49).run Try.prog w = .ok (.agg zz) w := by
  have h : (Try.prog.info? 49).bind (·.zero) = some (.agg zz) := by kernel_rfl
  obtain ⟨i, hi⟩ : ∃ i, Try.prog.info? 49 = some i := by
    cases hh : Try.prog.info? 49 with
    | none => rw [hh] at h; cases h
    | some i => exact ⟨i, rfl⟩
  rw [hi] at h
  have hz : i.zero = some (.agg zz) := h
  unfold zeroValue typeInfo
  simp [go_sem, hi, hz]
attribute [irreducible] zz
theorem alloc256 (w : World) : (Instr.alloc 49 true (.tuple #[])).run Try.prog w = .ok (.pointer (some ⟨w.heap.size, 0, none⟩)) (w.alloc (.cells zz 49)) := by
  have hz := zero256 w
  unfold Instr.alloc
  simp [hz, go_sem]
theorem blk256 (w : World) : Blk (w.alloc (.cells zz 49)) w.heap.size (Ints (List.replicate 256 0)) 49 := by
  unfold zz; exact Blk.new w _ _
set_option maxRecDepth 100000 in
theorem info256 : (Try.prog.info? 49).map (·.size) = some 256 := by kernel_rfl

theorem results_cell {P : Program} {fn : Func} {tmps : Array Value} {a : Nat} {t : TypeId} {p : Addr} {v : Value} {w : World} (hr : fn.results = #[.cell a t]) (hp : tmps.getD a undef = .pointer (some p))
    (hL : (loadVar t p).run P w = .ok v w) : (results fn tmps).run P w = .ok v w := by
  have hp2 : (asAddr (.pointer (some p))).run P w = .ok p w := by simp [asAddr, go_sem]
  have hp' : tmps[a]?.getD undef = .pointer (some p) := by simpa using hp
  unfold results
  rw [hr]
  simp [hp', hp2, hL]

theorem index256 (cs : Array Value) (c : Nat) (hc : c < 256) (v : Value) (h : cs[c]? = some v) (w : World) : (Instr.index 49 (.agg cs) (.int .i64 (c : Int))).run Try.prog w = .ok v w := by
  have hcz : (c : Int) < 256 := by omega
  have hcz2 : ¬ 256 ≤ c := by omega
  unfold Instr.index part
  simp [run_underlying Try.underlying49, asIntOf, go_sem, hcz, h]
  exact fun h => absurd h hcz2

theorem Ints_at' {w : World} {B : Nat} {l : List Int} {t : TypeId} (h : Blk w B (Ints l) t) {i : Nat} (hi : i < l.length) : w.cell? ⟨B, i, none⟩ = some (.int .i64 (l.getD i 0)) := by
  rw [h.cell, List.getD_eq_getElem?_getD, List.getElem?_eq_getElem hi]
  simp [Ints, hi]

set_option maxRecDepth 100000 in
set_option maxHeartbeats 2000000 in
theorem starts17_any (b : List Int) (hn : b.length ≤ 150) (hb : ∀ x ∈ b, 0 ≤ x ∧ x < 256) (a : Option Addr) (cap : Nat) (p : Int) (w : World) (hrd : Rd w a (Bts b)) :
    Calls Try.prog 21 #[.agg #[.slice a b.length cap, .int .i64 p]] w fun e w' => (∃ st, e = .returned (.agg (Ints st).toArray) ∧ st.length = 256 ∧ ∀ c, c < 256 → st.getD c 0 = 1 + (S17.lower b c : Int)) ∧ Below w.heap.size w w' := by
  obtain ⟨n, hnb⟩ : ∃ n, b.length = n := ⟨_, rfl⟩
  have hn' : n ≤ 150 := by omega
  have HRD := Lib.hid fun (W : World) (hW : Below w.heap.size w W) (i : Nat) (hi : i < n) => Bts_at (hrd.step hW) (i := i) (by omega)
  have HBy := Lib.hid fun (i : Nat) (hi : i < n) => (show 0 ≤ b.getD i 0 ∧ b.getD i 0 < 256 by
    rw [List.getD_eq_getElem?_getD, List.getElem?_eq_getElem (by omega)]; exact hb _ (List.getElem_mem (by omega)))
  rw [hnb]
  have Hnb := Lib.hid hnb
  have Hb := Lib.hid hb
  clear hnb hn hb hrd
  obtain ⟨W0, hW0⟩ : ∃ W0, w.alloc (.cells #[.slice a n cap, .int .i64 p] 39) = W0 := ⟨_, rfl⟩
  have k0 : Blk W0 w.heap.size [.slice a n cap, .int .i64 p] 39 := by rw [← hW0]; exact Blk.new w _ _
  have z0 : W0.heap.size = w.heap.size + 1 := by rw [← hW0]; simp
  have B0 : Below w.heap.size w W0 := by rw [← hW0]; exact (Below.refl _ _).alloc (Nat.le_refl _) _
  obtain ⟨W1, hW1⟩ : ∃ W1, W0.alloc (.cells zz 49) = W1 := ⟨_, rfl⟩
  have k1 : Blk W1 (w.heap.size + 1) (Ints (List.replicate 256 0)) 49 := by rw [← hW1, ← z0]; exact blk256 _
  have z1 : W1.heap.size = w.heap.size + 1 + 1 := by rw [← hW1]; simp [z0]
  have B1 : Below W0.heap.size W0 W1 := by rw [← hW1]; exact (Below.refl _ _).alloc (Nat.le_refl _) _
  obtain ⟨W2, hW2⟩ : ∃ W2, W1.alloc (.cells zz 49) = W2 := ⟨_, rfl⟩
  have k2 : Blk W2 (w.heap.size + 1 + 1) (Ints (List.replicate 256 0)) 49 := by rw [← hW2, ← z1]; exact blk256 _
  have z2 : W2.heap.size = w.heap.size + 1 + 1 + 1 := by rw [← hW2]; simp [z1]
  have B2 : Below W1.heap.size W1 W2 := by rw [← hW2]; exact (Below.refl _ _).alloc (Nat.le_refl _) _
  have k0' := (k0.step B1).step B2
  have k1' := k1.step B2
  have hB2 : Below w.heap.size w W2 := below_trans (below_trans B0 B1) B2
  have c0 := k0'.cell 0
  simp only [List.getElem?_cons_zero] at c0
  go_enter Try.func21, Try.ntmps21
  go_wp2_with (first
    | (refine wpList_alloc 49 zz alloc256 (by rfl) (by rfl) ?_; (try rw [hW0]); first | (rw [hW1, z0]) | (rw [hW2, z1])))
  go_loopw [12] (fun v wr => ∃ (k : Nat) (cl : List Int), k ≤ n ∧ v = .int .i64 (k : Int) ∧ Hid (cl.length = 256) ∧ Hid (∀ c, c < 256 → cl.getD c 0 = (S17.tally (b.take k) c : Int)) ∧
    Blk wr (w.heap.size + 1 + 1) (Ints cl) 49 ∧ Blk wr (w.heap.size + 1) (Ints (List.replicate 256 0)) 49 ∧ Below w.heap.size w wr) (fun v _ => n - (intOf v).toNat)
  case atStart =>
    refine ⟨0, List.replicate 256 0, by omega, rfl, Lib.hid (by simp), Lib.hid (fun c hc => ?_), k2, k1', hB2⟩
    rw [List.getD_eq_getElem?_getD, List.getElem?_replicate, if_pos hc]; rfl
  case round =>
    clear k2 k1' hB2 k0 k0' k1 c0 z0 z1 z2 B0 B1 B2 hW0 hW1 hW2
    obtain ⟨k, cl, hk, rfl, hcl, hct, q2, q1, hB⟩ := hrel
    by_cases hlt : k < n
    · have hkz : (k : Int) < (n : Int) := by omega
      obtain ⟨ab, ao, hab, hcb⟩ := HRD.out _ hB k hlt
      subst hab
      have hxr := HBy.out k hlt
      have hsn := take_snoc (b := b) (k := k) (by have := Hnb.out; omega)
      obtain ⟨x, hxv⟩ : ∃ x, b.getD k 0 = x := ⟨_, rfl⟩
      rw [hxv] at hcb hxr hsn
      clear hxv
      obtain ⟨xn, rfl⟩ : ∃ xn : Nat, x = (xn : Int) := ⟨x.toNat, by omega⟩
      have hxn : xn < 256 := by omega
      have cO := Ints_at' q2 (i := xn) (by have := hcl.out; omega)
      have fO := q2.free xn
      rw [hct.out xn hxn] at cO
      have hty := S17.tally_le (b.take k) xn
      rw [List.length_take] at hty
      obtain ⟨ty, hty2⟩ : ∃ ty, S17.tally (b.take k) xn = ty := ⟨_, rfl⟩
      rw [hty2] at cO hty
      have Hty := Lib.hid hty2
      have Hsn := Lib.hid hsn
      clear hty2 hsn
      have hs := q2.set xn (.int .i64 ((ty : Int) + 1))
      rw [← Ints_set] at hs
      have hs1 := q1.other (w.heap.size + 1 + 1) xn (.int .i64 ((ty : Int) + 1)) (by omega)
      have hBs : Below w.heap.size w (wr.setCell ⟨w.heap.size + 1 + 1, xn, none⟩ (.int .i64 ((ty : Int) + 1))) := hB.setCell (p := ⟨w.heap.size + 1 + 1, xn, none⟩) (by simp; omega) _
      go_wp2
      go_roundw
      case rel =>
        refine ⟨k + 1, cl.set xn ((ty : Int) + 1), by omega, by simp, Lib.hid (by rw [List.length_set]; exact hcl.out), Lib.hid (fun c hc => ?_), hs, hs1, hBs⟩
        rw [Hsn.out, S17.tally_snoc]
        by_cases e : xn = c
        · subst e; rw [getD_set_same (by have := hcl.out; omega), Hty.out]; simp
        · rw [getD_set_other e, hct.out c hc, if_neg (by omega)]; simp
      case measure => simp [intOf]; omega
    · obtain rfl : k = n := by omega
      have hkn : ¬ ((k : Int) < (k : Int)) := by omega
      have HT : Hid (∀ c, c < 256 → cl.getD c 0 = (S17.tally b c : Int)) := Lib.hid fun c hc => by
        rw [hct.out c hc, List.take_of_length_le (by have := Hnb.out; omega)]
      clear hct
      have hcl1 : some 256 = some (Ints cl).length := by rw [Ints_length, hcl.out]
      go_wp2_with (first
        | (refine wpList_loadB 49 (.tmp 3) (by rfl) (by rfl) (w.heap.size + 1 + 1) (by rfl) (Ints cl) 49 q2 _ Try.underlying49 rfl (info256.trans hcl1) ?_))
      have HZ := Lib.hid q1
      go_loopw [6, 23] (fun u v wr => ∃ (c : Nat) (sl : List Int), c ≤ 256 ∧ v = .int .i64 (c : Int) ∧ u = .int .i64 (1 + (S17.lower b c : Int)) ∧ Hid (sl.length = 256) ∧ Hid (∀ i, i < c → sl.getD i 0 = 1 + (S17.lower b i : Int)) ∧
        Blk wr (w.heap.size + 1 + 1) (Ints sl) 49 ∧ Blk wr (w.heap.size + 1) (Ints (List.replicate 256 0)) 49 ∧ Below w.heap.size w wr) (fun _ v _ => 256 - (intOf v).toNat)
      case atStart =>
        refine ⟨0, cl, by omega, rfl, ?_, hcl, Lib.hid (fun i hi => by omega), q2, q1, hB⟩
        rw [S17.lower_zero (fun x hx => (Hb.out x hx).1)]; rfl
      case round =>
        clear q2 q1 hB
        obtain ⟨c, sl, hc, rfl, rfl, hsl, hsc, q2, q1, hB⟩ := hrel
        by_cases hlc : c < 256
        · have hcz : (c : Int) < 256 := by omega
          have hls := S17.lower_succ b c
          have hll := S17.lower_le b c
          have hlt2 := S17.tally_le b c
          have hii : (Ints cl).toArray[c]? = some (.int .i64 (S17.tally b c : Int)) := by
            rw [List.getElem?_toArray, ← HT.out c hlc, List.getD_eq_getElem?_getD]
            have h1 := List.getElem?_eq_getElem (l := cl) (i := c) (by have := hcl.out; omega)
            simp [Ints, h1]
          have cO := Ints_at' q2 (i := c) (by have := hsl.out; omega)
          have fO := q2.free c
          obtain ⟨lo, hlo⟩ : ∃ lo, S17.lower b c = lo := ⟨_, rfl⟩
          obtain ⟨ty, hty⟩ : ∃ ty, S17.tally b c = ty := ⟨_, rfl⟩
          rw [hlo] at hls hll ⊢
          rw [hty] at hls hlt2 hii
          have Hlo := Lib.hid hlo
          have Hls := Lib.hid hls
          have hbn := Hnb.out
          rw [hbn] at hlt2 hll
          clear hlo hty hls hbn
          have hs := q2.set c (.int .i64 (1 + (lo : Int)))
          rw [← Ints_set] at hs
          have hs1 := q1.other (w.heap.size + 1 + 1) c (.int .i64 (1 + (lo : Int))) (by omega)
          have hBs : Below w.heap.size w (wr.setCell ⟨w.heap.size + 1 + 1, c, none⟩ (.int .i64 (1 + (lo : Int)))) := hB.setCell (p := ⟨w.heap.size + 1 + 1, c, none⟩) (by simp; omega) _
          have hix := index256 _ c hlc _ hii
          go_wp2
          go_roundw
          case rel =>
            refine ⟨c + 1, sl.set c (1 + (lo : Int)), by omega, by simp, ?_, Lib.hid (by rw [List.length_set]; exact hsl.out), Lib.hid (fun i hi => ?_), hs, hs1, hBs⟩
            · rw [Hls.out]; simp; omega
            · by_cases e : c = i
              · subst e; rw [getD_set_same (by have := hsl.out; omega), Hlo.out]
              · rw [getD_set_other e]; exact hsc.out i (by omega)
          case measure => simp [intOf]; omega
        · obtain rfl : c = 256 := by omega
          have hsl1 : some 256 = some (Ints sl).length := by rw [Ints_length, hsl.out]
          have hsl2 : (Ints (List.replicate 256 0)).length = (Ints sl).length := by rw [Ints_length, Ints_length, hsl.out]; simp
          go_wp2_with (first
            | (refine wpList_loadB 49 (.tmp 3) (by rfl) (by rfl) (w.heap.size + 1 + 1) (by rfl) (Ints sl) 49 q2 _ Try.underlying49 rfl (info256.trans hsl1) ?_)
            | (refine wpList_storeB 49 (.tmp 2) (.tmp 34) (by rfl) (by rfl) (w.heap.size + 1) (by rfl) (Ints sl) (by rfl) _ 49 q1 (info256.trans hsl1) hsl2 ints_row ?_
               intro wL EL gL sL))
          have hL : (loadVar 49 ⟨w.heap.size + 1, 0, none⟩).run Try.prog wL = .ok (.agg (Ints sl).toArray) wL := run_loadVar_mid wL _ 0 _ _ _ EL.cells Try.underlying49 rfl (info256.trans hsl1)
          refine bodyPost_ret (v := .agg (Ints sl).toArray) ?_ rfl ?_
          · have hr : Try.f21.results = #[.cell 2 49] := rfl
            exact results_cell hr (p := ⟨w.heap.size + 1, 0, none⟩) rfl hL
          · exact ⟨⟨sl, rfl, hsl.out, fun i hi => hsc.out i hi⟩, hB.trans (rowBelow gL (by omega) hB.size)⟩
end Go.Proofs.Ytalidjgniebohaa
