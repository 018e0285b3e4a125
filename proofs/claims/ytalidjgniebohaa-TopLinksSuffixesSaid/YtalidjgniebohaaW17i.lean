/- Forward and Links (layer 33). No condition. -/
import Derived.Test.YtalidjgniebohaaW17h
set_option linter.unusedSimpArgs false
set_option linter.unusedVariables false
set_option linter.unusedSectionVars false
namespace Go.Proofs.Ytalidjgniebohaa
open Go.RowKit Go.Shelf

theorem elems_bytes : Elems Try.prog 22 5 1 1 [.int .u8 0] := ⟨Try.underlying22, by kernel_rfl, rfl, by decide⟩
theorem Bts_one (l : List Int) : ∀ u ∈ Bts l, u.oneCell' = true := fun u hu => by
  obtain ⟨x, _, rfl⟩ := List.mem_map.1 hu
  rfl
theorem Rd.new1 (w : World) (x : Int) : Rd (w.alloc (.cells #[.int .u8 x] 5)) (some ⟨w.heap.size, 0, none⟩) (Bts [x]) := fun _ => ⟨_, 0, rfl, (Blk.new w [.int .u8 x] 5).cells⟩
theorem S17.out_snoc (b : List Int) (l : List Nat) (p : Nat) : S17.out b (l ++ [p]) = if 0 < p then S17.out b l ++ [S17.byte b p] else S17.out b l := by
  unfold S17.out
  rw [List.filter_append, List.map_append]
  by_cases h : 0 < p
  · simp [h]
  · simp [h]
theorem take_snocN {l : List Nat} {k : Nat} (hk : k < l.length) : l.take (k + 1) = l.take k ++ [l.getD k 0] := by
  rw [List.take_succ_eq_append_getElem hk, List.getD_eq_getElem?_getD, List.getElem?_eq_getElem hk]; rfl
theorem S17.out_len {b : List Int} {n : Nat} {pl : List Nat} (hp : S17.Perm n pl) : (S17.out b pl).length = n := by
  have h : (S17.out b pl).length = pl.countP (fun p => decide (0 < p)) := by unfold S17.out; rw [List.length_map, List.countP_eq_length_filter]
  rw [h, List.Perm.countP_eq _ hp, List.range_succ_eq_map, List.countP_cons, List.countP_map]
  simp only [Nat.lt_irrefl, decide_false, Bool.false_eq_true, if_false, Nat.add_zero]
  rw [List.countP_eq_length.2 (by simp), List.length_range]
theorem S17.out_bytes {b : List Int} {n : Nat} (hn : b.length = n) (hb : ∀ x ∈ b, 0 ≤ x ∧ x < 256) {pl : List Nat} (hp : S17.Perm n pl) : ∀ x ∈ S17.out b pl, 0 ≤ x ∧ x < 256 := fun x hx => by
  unfold S17.out at hx
  obtain ⟨p, hpm, rfl⟩ := List.mem_map.1 hx
  obtain ⟨h1, h2⟩ := List.mem_filter.1 hpm
  have h3 := (List.Perm.mem_iff hp).1 h1
  rw [List.mem_range] at h3
  simp only [decide_eq_true_eq] at h2
  unfold S17.byte
  rw [List.getD_eq_getElem?_getD, List.getElem?_eq_getElem (by omega)]
  exact hb _ (List.getElem_mem (by omega))
theorem idx17 {n : Nat} {pl : List Nat} (hp : S17.Perm n pl) {prim : Nat} (h : prim ≤ n) (h0 : pl.getD prim 0 = 0) : Lib.idxOf ((pl.map fun (p : Nat) => (p : Int)).take (n + 1)) 0 = (prim : Int) := by
  have hl := hp.len
  rw [List.take_of_length_le (by rw [List.length_map]; omega)]
  have e : ∀ j, j ≤ n → (pl.map fun (p : Nat) => (p : Int)).getD j 0 = ((pl.getD j 0 : Nat) : Int) := fun j hj => by
    rw [List.getD_eq_getElem?_getD, List.getD_eq_getElem?_getD, List.getElem?_map, List.getElem?_eq_getElem (by omega)]; rfl
  have := Lib.idxFrom_hit 0 (pl.map fun (p : Nat) => (p : Int)) prim 0 (by rw [List.length_map]; omega) (by rw [e prim h, h0]; rfl) (fun j hj => by
    rw [e j (by omega)]
    intro h2
    have : j = prim := hp.inj (by omega) h (by omega)
    omega)
  simpa [Lib.idxOf] using this

theorem mk0_17 (n : Nat) (hn : n ≤ 200) (w : World) : (Instr.makeSlice 22 (.int .i64 0) (.int .i64 (n : Int))).run Try.prog w = .ok (.slice (some ⟨w.heap.size, 0, none⟩) 0 n) (w.alloc (.cells (List.replicate n (.int .u8 0)).toArray 5)) := by
  obtain ⟨i, z', hi, hz, hsz, hby, hzs, hzc⟩ := elems_bytes.open
  have hr := run_make (P := Try.prog) w 22 5 i z' elems_bytes.1 hi hz .i64 .i64 0 n (by omega) (by omega) (by rw [hby]; omega) (by omega)
  simp only [Int.toNat_natCast] at hr
  have hc : z'.cells = #[.int .u8 0] := by
    apply Array.ext'
    rw [hzc]
  have hm : madeCells z'.cells (n * i.size) = (List.replicate n (Value.int .u8 0)).toArray := by
    rw [hsz, Nat.mul_one, hc]
    apply Array.ext'
    rw [toList_madeCells_one]
  rw [hm] at hr
  exact hr

set_option maxRecDepth 100000 in
set_option maxHeartbeats 2000000 in
theorem forward17_any (b : List Int) (n : Nat) (hnb : b.length = n) (hn : n ≤ 150) (hb : ∀ x ∈ b, 0 ≤ x ∧ x < 256) (a : Option Addr) (cap : Nat) (w : World) (hrd : Rd w a (Bts b)) :
    Calls Try.prog 6 #[.slice a n cap] w fun e w' => ∃ a' cap' pl prim, e = .returned (.tuple #[.slice a' n cap', .int .i64 ((prim : Nat) : Int), .int .i64 0]) ∧ prim ≤ n ∧ pl.getD prim 0 = 0 ∧ S17.Sorted b pl ∧ Rd w' a' (Bts (S17.out b pl)) ∧ Below w.heap.size w w' := by
  have HSO := Lib.hid (by have := sort17_any b (by omega) hb a cap w hrd; rwa [hnb] at this)
  have HRD := Lib.hid fun (W : World) (hW : Below w.heap.size w W) (i : Nat) (hi : i < n) => Bts_at (hrd.step hW) (i := i) (by omega)
  have HBy := Lib.hid fun (i : Nat) (hi : i < n) => (show 0 ≤ b.getD i 0 ∧ b.getD i 0 < 256 by
    rw [List.getD_eq_getElem?_getD, List.getElem?_eq_getElem (by omega)]; exact hb _ (List.getElem_mem (by omega)))
  have Hnb := Lib.hid hnb
  clear hrd hb hnb
  go_enter Try.func6, Try.ntmps6
  go_wp2_with fail
  refine HSO.out.mono ?_
  rintro e w1 ⟨P, pl, rfl, hP, bP, hso, hB1⟩
  have hpe := hso.1
  rw [Hnb.out] at hpe
  obtain ⟨prim, hpr, hp0⟩ := hpe.find (p := 0) (by omega)
  have hix := idx17 hpe hpr hp0
  have hIx := Lib.hid (Try.slices_Index_int P 0 (n + 1) (n + 1) (pl.map fun (p : Nat) => (p : Int)) 0 w1 (by rw [List.length_map, hpe.len]; exact Nat.le_refl _) (by omega) (fun j hj => by
    rw [List.length_map, hpe.len] at hj
    have := Nats_cell bP hpe (i := j) (by omega)
    rw [Nat.zero_add, this, List.getD_eq_getElem?_getD, List.getD_eq_getElem?_getD, List.getElem?_map, List.getElem?_eq_getElem (by rw [hpe.len]; omega)]; rfl))
  rw [hix] at hIx
  have HSo := Lib.hid hso
  have HPe := Lib.hid hpe
  have Hp0 := Lib.hid hp0
  clear hso hpe hix hp0
  go_wp2_with fail
  refine hIx.out.mono ?_
  rintro e w2 ⟨rfl, hw2⟩
  subst hw2
  have hz2 := hB1.size
  have hmk := mk0_17 n (by omega)
  obtain ⟨G, hG⟩ : ∃ G, w2.heap.size = G := ⟨_, rfl⟩
  obtain ⟨w3, hw3⟩ : ∃ w3, w2.alloc (.cells (List.replicate n (.int .u8 0)).toArray 5) = w3 := ⟨_, rfl⟩
  have hown3 : w3.ownsRow G 5 1 (.slice (some ⟨G, 0, none⟩) 0 n) 0 (Bts (S17.out b (pl.take 0))) := by
    rw [← hw3, ← hG]; exact World.ownsRow_made w2 _ n (Nat.le_refl _) (by unfold maxLen; omega) (by simp)
  have hb3 : Below w2.heap.size w2 w3 := by rw [← hw3]; exact (Below.refl _ _).alloc (Nat.le_refl _) _
  have hB3 := below_trans hB1 hb3
  have bP3 := bP.step hb3
  have hmk2 := hmk w2
  rw [hw3, hG] at hmk2
  have hPG : P < G := by rw [← hG]; exact bP.lt
  have hz3 : G ≤ w3.heap.size := by rw [← hG]; exact hb3.size
  clear hmk hw3 bP hB1 hb3
  go_wp2_with fail
  go_loopw [8, 26] (fun v i W => ∃ (k m : Nat) (a' : Option Addr) (c' : Nat), k ≤ n + 1 ∧ m ≤ k ∧ i = .int .i64 (k : Int) ∧ v = .slice a' m c' ∧ Hid (W.ownsRow G 5 1 (.slice a' m c') m (Bts (S17.out b (pl.take k)))) ∧ Blk W P (Nats pl) 3 ∧ Below w.heap.size w W ∧ G ≤ W.heap.size) (fun _ i _ => n + 1 - (intOf i).toNat)
  case atStart =>
    exact ⟨0, 0, _, n, by omega, Nat.le_refl _, rfl, rfl, Lib.hid hown3, bP3, hB3, hz3⟩
  case round =>
    clear hown3 bP3 hB3 hmk2 hz3
    obtain ⟨k, m, a', c', hk, hm, rfl, rfl, hown, bP, hB, hz⟩ := hrel
    by_cases hlt : k < n + 1
    · have hkz : (k : Int) < (n : Int) + 1 := by omega
      have cP := Nats_cell bP HPe.out (i := k) (by omega)
      have hple := HPe.out.le (i := k) (by omega)
      have hsn := Lib.hid (take_snocN (l := pl) (k := k) (by have := HPe.out.len; omega))
      obtain ⟨q, hq⟩ : ∃ q, pl.getD k 0 = q := ⟨_, rfl⟩
      rw [hq] at cP hple hsn
      clear hq
      by_cases hq0 : 0 < q
      · obtain ⟨p, rfl⟩ : ∃ p, q = p + 1 := ⟨q - 1, by omega⟩
        have hqz : (0 : Int) < ((p + 1 : Nat) : Int) := by omega
        have hqw : IntKind.i64.wrap (((p + 1 : Nat) : Int) - 1) = (p : Int) := by rw [IntWalk.i64_in _ (by omega)]; omega
        have hout := Lib.hid (show S17.out b (pl.take (k + 1)) = S17.out b (pl.take k) ++ [b.getD p 0] by rw [hsn.out, S17.out_snoc, if_pos hq0]; rfl)
        obtain ⟨ab, ao, hab, hcb⟩ := HRD.out _ hB p (by omega)
        subst hab
        have hxr := HBy.out p (by omega)
        have hpz : (p : Int) < (n : Int) := by omega
        obtain ⟨x, hx⟩ : ∃ x, b.getD p 0 = x := ⟨_, rfl⟩
        rw [hx] at hcb hxr hout
        clear hx hsn
        obtain ⟨QQ, hQQ⟩ : ∃ Q, ((p + 1 : Nat) : Int) = Q := ⟨_, rfl⟩
        rw [hQQ] at hqz hqw cP
        clear hQQ
        go_wp2_with (at_builtin; refine wpList_append_rd (.tmp 32) (.tmp 38) 22 5 1 1 _ G elems_bytes rfl rfl _ m _ rfl (hown.out.alloc _) (some ⟨wr.heap.size, 0, none⟩) 1 1 (Bts [x]) rfl rfl (Rd.new1 wr x) (Bts_one [x]) (by unfold maxLen; omega) (by omega) (by simp; omega) ?_; intro a4 c4 w4 hown4 hg4)
        go_roundw
        case rel =>
          have hlb : ∀ r, (Value.slice a' m c').ownBlock = some r → G ≤ r := fun r e => (hown.out.lt r e).1
          have hgg : (wr.alloc (Obj.cells #[Value.int IntKind.u8 x] 5)).grownBy w4 (Value.slice a' m c').ownBlock := hg4
          have hsz := hgg.size
          rw [World.size_alloc] at hsz
          refine ⟨k + 1, m + 1, a4, c4, by omega, by omega, by simp, rfl, Lib.hid ?_, (bP.alloc _).keptRow hgg (fun e => by have := hlb P e.symm; omega), ?_, by omega⟩
          · rw [hout.out]
            have e : Bts (S17.out b (pl.take k) ++ [x]) = Bts (S17.out b (pl.take k)) ++ Bts [x] := by unfold Bts; rw [List.map_append]
            rw [e]; exact hown4
          · exact Below.grown (hB.alloc hB.size _) hgg (by simp; have := hB.size; omega) (fun r e => by have := hlb r e; have := hz2; omega)
        case measure => simp [intOf]; omega
      · obtain rfl : q = 0 := by omega
        have hout := Lib.hid (show S17.out b (pl.take (k + 1)) = S17.out b (pl.take k) by rw [hsn.out, S17.out_snoc, if_neg hq0])
        go_wp2
        go_roundw
        case rel =>
          exact ⟨k + 1, m, a', c', by omega, by omega, by simp, rfl, Lib.hid (by rw [hout.out]; exact hown.out), bP, hB, hz⟩
        case measure => simp [intOf]; omega
    · obtain rfl : k = n + 1 := by omega
      have hfull : pl.take (n + 1) = pl := List.take_of_length_le (by have := HPe.out.len; omega)
      have hlen : m = n := by
        have h1 := hown.out.1
        rw [hfull, Bts_length, S17.out_len HPe.out] at h1
        omega
      subst hlen
      have hres := Lib.hid (show Rd wr a' (Bts (S17.out b pl)) by have := Rd.of_owns hown.out; rwa [hfull] at this)
      have hkn2 : ¬ (((m + 1 : Nat) : Int) < (m : Int) + 1) := by omega
      clear hfull
      go_wp2
      go_returns
      exact ⟨a', c', pl, prim, rfl, hpr, Hp0.out, HSo.out, hres.out, hB⟩

set_option maxHeartbeats 2000000 in
theorem Links17_any (b : List Int) (n : Nat) (hnb : b.length = n) (hn : n ≤ 150) (hb : ∀ x ∈ b, 0 ≤ x ∧ x < 256) (a : Option Addr) (cap prim : Nat) (hp : prim ≤ n) (w : World) (hrd : Rd w a (Bts b)) :
    Calls Try.prog 7 #[.slice a n cap, .int .i64 (prim : Int)] w fun e w' => ∃ B, e = .returned (.tuple #[.slice (some ⟨B, 0, none⟩) (n + 1) (n + 1), .int .i64 0]) ∧ w.heap.size ≤ B ∧ (∃ ll, Blk w' B (Ints ll) 3 ∧ S17.LinkOf b prim n ll) ∧ Below w.heap.size w w' := by
  have HN := Lib.hid (newRows_any a n cap prim hn hp w)
  have HL := Lib.hid fun (W : World) (hW : Below w.heap.size w W) => links17_any b n hnb hn hb a cap prim hp W (hrd.step hW)
  clear hb hrd hnb
  go_enter Try.func7, Try.ntmps7
  go_wp2_with fail
  refine HN.out.mono ?_
  rintro e w1 ⟨rfl, hB1⟩
  go_wp2_with fail
  have hB2 : Below w.heap.size w (w1.alloc (.cells #[.slice a n cap, .int .i64 (prim : Int)] 39)) := hB1.alloc hB1.size _
  refine (HL.out _ hB2).mono ?_
  rintro e w3 ⟨B, rfl, hBB, hll, hB3⟩
  have hB4 := below_trans hB2 hB3
  have hz := hB2.size
  go_wp2
  go_returns
  exact ⟨B, rfl, by omega, hll, hB4⟩
end Go.Proofs.Ytalidjgniebohaa
