/- index (layer 12). search (layer 12). No condition. -/
import Derived.Test.YtbfgdaijpcbddaaW12l
set_option linter.unusedSimpArgs false
set_option linter.unusedVariables false
set_option linter.unusedSectionVars false
namespace Go.Proofs.Ytbfgdaijpcbddaa
open Go.RowKit

theorem foldl_take (f : Nat → Int → Nat) (z : Nat) (ys : List Int) (k : Nat) (hk : k < ys.length) : (ys.take (k + 1)).foldl f z = f ((ys.take k).foldl f z) (ys.getD k 0) := by
  rw [List.take_succ_eq_append_getElem hk, List.foldl_append, S12.getD_in _ _ hk]
  rfl
theorem S12.hash_take {ys : List Int} {k : Nat} (hk : k < ys.length) : S12.hash (ys.take (k + 1)) = (S12.hash (ys.take k) + (ys.getD k 0).toNat + 1) * S12.factor % 4294967296 := by
  unfold S12.hash
  exact foldl_take _ 0 ys k hk
theorem mul_mod_cast (H x f M : Nat) (fi Mi : Int) (hf : (f : Int) = fi) (hM : (M : Int) = Mi) : (((H : Int) + (x : Int) + 1) % Mi * fi) % Mi = (((H + x + 1) * f % M : Nat) : Int) := by
  subst hf hM
  have e : (H : Int) + (x : Int) + 1 = ((H + x + 1 : Nat) : Int) := by omega
  rw [e, ← Int.natCast_emod, ← Int.natCast_mul, ← Int.natCast_emod, Nat.mod_mul_mod]
theorem div_cast (H n : Nat) : (H : Int) / 2 ^ n = ((H / 2 ^ n : Nat) : Int) := by rw [Int.natCast_ediv, Int.natCast_pow]; rfl
set_option maxRecDepth 100000 in
set_option maxHeartbeats 2000000 in
theorem index12_any (B S gh gc : Nat) (m : S12.M) (p : Pl) (w : World) (h : St B S gh gc m p w) (hbits : 1 ≤ m.bits ∧ m.bits ≤ 16) (hle : 1 ≤ m.least ∧ m.least ≤ 32) (hlen : m.least ≤ m.bytes.length) (hmax : m.bytes.length ≤ 65537) (hbyt : S12.Byt m.bytes) :
    Calls Try.prog 59 #[.pointer (some ⟨S, 0, none⟩)] w fun e w' => e = .returned (.int .i64 (S12.idx m.bytes m.bits m.least : Int)) ∧ Below w.heap.size w w' := by
  obtain ⟨x0, x1, x2, x3, x4, x5, x6, x7, x8⟩ := h.blk.nine
  have hrd := Rd.of_owns h.ob
  have hcap : m.bytes.length ≤ p.cb := by
    obtain ⟨a, c, e, h1, h2⟩ := owns_slice h.ob
    simp at e
    omega
  clear h
  obtain ⟨bits, least, heads, bytes, at_, len, part, bit, ctrs⟩ := m
  simp only at *
  obtain ⟨L, hL⟩ : ∃ L : Nat, least = L := ⟨least.toNat, by omega⟩
  subst hL
  obtain ⟨n, hn⟩ : ∃ n : Nat, bits = n := ⟨bits.toNat, by omega⟩
  subst hn
  obtain ⟨g, o, hab, hcs⟩ := Bts_at hrd (i := 0) (by omega)
  rw [hab] at x3
  clear hrd hab x2 x4 x5 x6 x7 x8
  obtain ⟨st, hst⟩ : ∃ st : Nat, st = bytes.length - L := ⟨_, rfl⟩
  obtain ⟨ys, hys⟩ : ∃ ys : List Int, bytes.drop st = ys := ⟨_, rfl⟩
  have hyl : ys.length = L := by rw [← hys, List.length_drop]; omega
  have hcy : ∀ j, j < L → w.cell? ⟨g, o + st + j, none⟩ = some (.int .u8 (ys.getD j 0)) := fun j hj => by
    rw [Nat.add_assoc, hcs (st + j) (by omega), ← hys, List.getD, List.getD, List.getElem?_drop]
  have hyb : ∀ j, 0 ≤ ys.getD j 0 ∧ ys.getD j 0 < 256 := fun j => by
    have e : ys.getD j 0 = bytes.getD (st + j) 0 := by rw [← hys, List.getD, List.getD, List.getElem?_drop]
    rw [e]
    exact ⟨hbyt.get _, by have := hbyt.at (st + j); have := hbyt.get (st + j); omega⟩
  have hidx : S12.idx bytes (n : Int) (L : Int) = S12.hash ys / 2 ^ (32 - n) := by
    unfold S12.idx
    rw [Int.toNat_natCast, Int.toNat_natCast, ← hst, hys]
  rw [hidx]
  obtain ⟨q, hq⟩ : ∃ q, S12.hash ys / 2 ^ (32 - n) = q := ⟨_, rfl⟩
  rw [hq]
  have Hq := Lib.hid hq
  clear hq
  have hC : Cells w [(⟨S, 3, none⟩, .slice (some ⟨g, o, none⟩) bytes.length p.cb), (⟨S, 1, none⟩, .int .i64 (L : Int))] := ⟨x3, x1, trivial⟩
  have hw1 : IntKind.i64.wrap ((bytes.length : Int) - (L : Int)) = (st : Int) := by rw [IntWalk.i64_in _ (by omega)]; omega
  have hsl : (bytes.length : Int) - (st : Int) = (L : Int) := by omega
  have hsn : bytes.length - st = L := by omega
  have hcne : ¬ p.cb = st := by omega
  have hstl : st ≤ bytes.length := by omega
  clear hidx hys hcs hst
  go_enter Try.func59, Try.ntmps59
  go_wp2_with fail
  refine wp_region_seq 20 0 [(true, [true, true, true, true, true, true, true, true, true, true, true, true, true, true, true, true, true, true, true, true])] _ _ (Keeps w [(⟨S, 3, none⟩, .slice (some ⟨g, o, none⟩) bytes.length p.cb), (⟨S, 1, none⟩, .int .i64 (L : Int))]) (by kernel_rfl) (List.take_append_drop 20 _).symm (by kernel_rfl) (by kernel_rfl) (by kernel_rfl) (by kernel_rfl) (Keeps.start hC) (fun Y Q4 F4 hY hF => ?_)
  simp only [phased, List.flatMap_cons, List.flatMap_nil, List.take_succ_cons, List.take_zero, List.drop_succ_cons, List.drop_zero, sel_true, sel_false, sel_nil, List.map_cons, List.map_nil, List.cons_append, List.nil_append, List.append_nil]
  repeat
    apply wpSeq_read (by first | rfl | (rw [hY]; rfl))
    · intro w2 hS2
      (try simp only [Keeps, Cells] at hS2)
      (try simp only [HasC, Cells] at hS2)
      go_simp
      with_reducible rfl
    simp only [Act.put, List.setIfInBounds_toArray, List.set_cons_zero, List.set_cons_succ]
  refine wpSeq_done (hF.out _ _ (fun K hK => ?_))
  clear hF hY
  go_wp2_with fail
  refine OnlyK.mk (hK.out _ _ ?_)
  clear hK hC x3 hw1 hsl hsn hcne hstl
  go_wp2_with fail
  go_loopw [3, 25] (fun h i wr => ∃ k : Nat, k ≤ L ∧ i = .int .i64 (k : Int) ∧ h = .int .u32 (S12.hash (ys.take k) : Int) ∧ Below w.heap.size w wr) (fun _ i _ => L - (intOf i).toNat)
  case atStart => exact ⟨0, by omega, rfl, rfl, (Below.refl _ w).drew⟩
  case round =>
    obtain ⟨k, hk, rfl, rfl, hB⟩ := hrel
    have zr : w.heap.size ≤ wr.heap.size := hB.size
    by_cases hlt : k < L
    · have hcc := (hB.cell (p := ⟨g, o + st + k, none⟩) (block_lt_of_cell (hcy k hlt))).trans (hcy k hlt)
      have HT := Lib.hid (S12.hash_take (ys := ys) (k := k) (by omega))
      have hHl := S12.hash_lt (ys.take k)
      obtain ⟨H, hH⟩ : ∃ H, S12.hash (ys.take k) = H := ⟨_, rfl⟩
      obtain ⟨x, hx⟩ : ∃ x : Nat, ys.getD k 0 = x := ⟨(ys.getD k 0).toNat, by have := hyb k; omega⟩
      have hx2 : x < 256 := by have := hyb k; omega
      rw [hH, hx, Int.toNat_natCast] at HT
      rw [hH] at hHl ⊢
      rw [hx] at hcc
      have hm := mul_mod_cast H x S12.factor 4294967296 2654435761 4294967296 rfl rfl
      obtain ⟨H', hH'⟩ : ∃ H', (H + x + 1) * S12.factor % 4294967296 = H' := ⟨_, rfl⟩
      rw [hH'] at hm HT
      clear hx hH hyb hcy hH'
      go_wp2_with fail
      go_roundw
      case rel => exact ⟨k + 1, by omega, by go_num, by rw [HT.out, hm], hB⟩
      case measure => simp [intOf]; omega
    · obtain rfl : k = L := by omega
      have e : ys.take k = ys := List.take_of_length_le (by omega)
      rw [e]
      have hHl := S12.hash_lt ys
      have x0r := (hB.cell (p := ⟨S, 0, none⟩) (block_lt_of_cell x0)).trans x0
      have hq := Hq.out
      obtain ⟨H, hH⟩ : ∃ H, S12.hash ys = H := ⟨_, rfl⟩
      rw [hH] at hHl hq ⊢
      have hw := div_cast H (32 - n)
      have hq2 : q < 4294967296 := by rw [← hq]; exact Nat.lt_of_le_of_lt (Nat.div_le_self _ _) hHl
      rw [hq] at hw
      clear hcy hyb hH e hq
      go_wp2_with fail
      go_returns
      exact ⟨rfl, hB⟩
end Go.Proofs.Ytbfgdaijpcbddaa

namespace Go.Proofs.Ytbfgdaijpcbddaa
open Go.RowKit

set_option maxRecDepth 100000 in
set_option maxHeartbeats 2000000 in
theorem search12_any (B S gh gc : Nat) (m : S12.M) (p : Pl) (w : World) (h : St B S gh gc m p w) (hbits : 1 ≤ m.bits ∧ m.bits ≤ 16) (hle : 1 ≤ m.least ∧ m.least ≤ 32) (hmax : m.bytes.length ≤ 65537) (hbyt : S12.Byt m.bytes)
    (hhl : m.heads.length = 2 ^ m.bits.toNat) (hhd : ∀ x ∈ m.heads, 0 ≤ x ∧ x ≤ m.bytes.length) :
    Calls Try.prog 37 #[.pointer (some ⟨S, 0, none⟩)] w fun e w' => e = .returned (.tuple #[]) ∧ St B S gh gc (S12.search m) p w' ∧ Below B w w' ∧ KeepF w w' := by
  have hS := h.hs
  have hBw : B ≤ w.heap.size := Nat.le_trans hS (Nat.le_of_lt h.blk.lt)
  obtain ⟨x0, x1, x2, x3, x4, x5, x6, x7, x8⟩ := h.blk.nine
  have lS := h.blk.lt
  have hHSt := h
  have HSt := Lib.hid hHSt
  have HI := Lib.hid fun W (hb : Below w.heap.size w W) (hlen : m.least ≤ m.bytes.length) => index12_any B S gh gc m p W (h.step hb) hbits hle hlen hmax hbyt
  have hbN : m.bytes.length < 9223372036854775808 := by omega
  have hC : Cells w [(⟨S, 3, none⟩, .slice p.ab m.bytes.length p.cb), (⟨S, 1, none⟩, .int .i64 m.least)] := ⟨x3, x1, trivial⟩
  have HR := Lib.hid fun W (hb : Below w.heap.size w W) (q : Nat) (hq : q ≤ m.bytes.length) (hne : 0 < m.bytes.length) => (show Calls Try.prog 53 #[.slice p.ab m.bytes.length p.cb, .int .i64 (q : Int)] W fun e w' => e = .returned (.int .i64 (S12.rep m.bytes q : Int)) ∧ Below W.heap.size W w' by
    have hs := h.step hb
    have hrd := Rd.of_owns hs.ob
    obtain ⟨g, o, hab, _⟩ := Bts_at hrd (i := 0) hne
    have hcap : m.bytes.length ≤ p.cb := by
      obtain ⟨a, c, e, h1, h2⟩ := owns_slice hs.ob
      simp at e
      omega
    rw [hab] at hrd ⊢
    exact repetition_any g o p.cb m.bytes q hq (by omega) hcap hne W hrd)
  by_cases hshort : (m.bytes.length : Int) < m.least
  · have e0 : S12.search m = m := by unfold S12.search; rw [if_pos hshort]
    rw [e0]
    have ed : decide ((m.bytes.length : Int) < m.least) = true := decide_eq_true hshort
    clear HI HR hHSt h e0
    go_enter Try.func37, Try.ntmps37
    go_wp2_with fail
    refine wp_region_seq 12 0 [(true, [true, true, true, true, true, true, true, true, true, true, true, true])] _ _ (Keeps w [(⟨S, 3, none⟩, .slice p.ab m.bytes.length p.cb), (⟨S, 1, none⟩, .int .i64 m.least)]) (by kernel_rfl) (List.take_append_drop 12 _).symm (by kernel_rfl) (by kernel_rfl) (by kernel_rfl) (by kernel_rfl) (Keeps.start hC) (fun Y Q4 F4 hY hF => ?_)
    simp only [phased, List.flatMap_cons, List.flatMap_nil, List.take_succ_cons, List.take_zero, List.drop_succ_cons, List.drop_zero, sel_true, sel_false, sel_nil, List.map_cons, List.map_nil, List.cons_append, List.nil_append, List.append_nil]
    repeat
      apply wpSeq_read (by first | rfl | (rw [hY]; rfl))
      · intro w2 hS2
        (try simp only [Keeps, Cells] at hS2)
        (try simp only [HasC, Cells] at hS2)
        go_simp
        with_reducible rfl
      simp only [Act.put, List.setIfInBounds_toArray, List.set_cons_zero, List.set_cons_succ]
    refine wpSeq_done (hF.out _ _ (fun K hK => ?_))
    clear hF hY
    go_wp2_with fail
    refine OnlyK.mk (hK.out _ _ ?_)
    clear hK
    go_wp2_with fail
    go_returns
    exact ⟨rfl, HSt.out.step (below_drew _ w), below_drew _ w, KeepF.of (below_drew _ w)⟩
  have ed : decide ((m.bytes.length : Int) < m.least) = false := decide_eq_false hshort
  obtain ⟨i, hi⟩ : ∃ i, S12.idx m.bytes m.bits m.least = i := ⟨_, rfl⟩
  have hil : i < m.heads.length := by rw [← hi, hhl]; exact S12.idx_lt _ _ hbits
  obtain ⟨hd, hhdd⟩ : ∃ hd, m.heads.getD i 0 = hd := ⟨_, rfl⟩
  have hhr : 0 ≤ hd ∧ hd ≤ m.bytes.length := hhd hd (by rw [← hhdd, S12.getD_in _ _ hil]; exact List.getElem_mem hil)
  obtain ⟨q, hq⟩ : ∃ q : Nat, hd = q := ⟨hd.toNat, by omega⟩
  subst hq
  have hfound : S12.found m = (decide (m.len = 0) && decide (0 < (q : Int)) && decide (m.least ≤ (S12.rep m.bytes q : Int))) := by
    unfold S12.found; rw [hi, hhdd, Int.toNat_natCast]
  have hsearch : S12.search m = { m with at_ := if S12.found m then (q : Int) else m.at_, len := if S12.found m then (S12.rep m.bytes q : Int) else m.len, heads := m.heads.set i m.bytes.length } := by
    unfold S12.search; rw [if_neg hshort, hi, hhdd, Int.toNat_natCast]
  have yh : w.cell? ⟨gh, i, none⟩ = some (.int .i64 (q : Int)) := by
    rw [h.oh.cell (by rw [Ints_length]; exact hil), ← hhdd, S12.getD_in _ _ hil]
    simp [Ints]
  have lh := h.oh.lt
  have hgh := h.hh
  rw [hi] at HI
  have HI := Lib.hid fun W hb => HI.out W hb (by omega)
  have HR := Lib.hid fun W hb => HR.out W hb q (by omega) (by omega)
  obtain ⟨rp, hrp⟩ : ∃ rp, S12.rep m.bytes q = rp := ⟨_, rfl⟩
  rw [hrp] at hfound hsearch HR
  rw [hsearch]
  have hph := h.ph
  have hhm : m.heads.length ≤ 65536 := by rw [hhl]; exact Nat.pow_le_pow_right (n := 2) (by omega) (show m.bits.toNat ≤ 16 by omega)
  have hi9 : i < 65536 := by omega
  have Hil := Lib.hid hil
  rw [hph] at x2
  clear hsearch hhdd hhd hhl hi hrp h hHSt hph hmax
  obtain ⟨fd, hfd⟩ : ∃ fd, S12.found m = fd := ⟨_, rfl⟩
  rw [hfd] at hfound ⊢
  clear hfd
  have hq9 : (q : Int) < 9223372036854775808 := by omega
  go_enter Try.func37, Try.ntmps37
  go_wp2_with fail
  refine wp_region_seq 12 0 [(true, [true, true, true, true, true, true, true, true, true, true, true, true])] _ _ (Keeps w [(⟨S, 3, none⟩, .slice p.ab m.bytes.length p.cb), (⟨S, 1, none⟩, .int .i64 m.least)]) (by kernel_rfl) (List.take_append_drop 12 _).symm (by kernel_rfl) (by kernel_rfl) (by kernel_rfl) (by kernel_rfl) (Keeps.start hC) (fun Y Q4 F4 hY hF => ?_)
  simp only [phased, List.flatMap_cons, List.flatMap_nil, List.take_succ_cons, List.take_zero, List.drop_succ_cons, List.drop_zero, sel_true, sel_false, sel_nil, List.map_cons, List.map_nil, List.cons_append, List.nil_append, List.append_nil]
  repeat
    apply wpSeq_read (by first | rfl | (rw [hY]; rfl))
    · intro w2 hS2
      (try simp only [Keeps, Cells] at hS2)
      (try simp only [HasC, Cells] at hS2)
      go_simp
      with_reducible rfl
    simp only [Act.put, List.setIfInBounds_toArray, List.set_cons_zero, List.set_cons_succ]
  refine wpSeq_done (hF.out _ _ (fun K hK => ?_))
  clear hF hY
  go_wp2_with fail
  refine OnlyK.mk (hK.out _ _ ?_)
  clear hK
  obtain ⟨w1, hw1⟩ : ∃ w1, w.drew = w1 := ⟨_, rfl⟩
  have hb1 : Below w.heap.size w w1 := by rw [← hw1]; exact below_drew _ w
  rw [hw1]
  clear hC hw1
  have S1 := HSt.out.step hb1
  have z2 : w1.cell? ⟨S, 2, none⟩ = some (.slice (some ⟨gh, 0, none⟩) m.heads.length p.ch) := (S1.blk.cell 2).trans (by rw [← S1.ph]; rfl)
  have hC1 : Cells w1 [(⟨S, 2, none⟩, .slice (some ⟨gh, 0, none⟩) m.heads.length p.ch)] := ⟨z2, trivial⟩
  clear S1
  go_wp2_with fail
  refine wp_region_seq 8 1 [(true, [true, true, true, true, true, true]), (false, [false, false, false, false, false, false, true]), (true, [false, false, false, false, false, false, false, true])] _ _ (Keeps w1 [(⟨S, 2, none⟩, .slice (some ⟨gh, 0, none⟩) m.heads.length p.ch)]) (by kernel_rfl) (List.take_append_drop 8 _).symm (by kernel_rfl) (by kernel_rfl) (by kernel_rfl) (by kernel_rfl) (Keeps.start hC1) (fun Y Q4 F4 hY hF => ?_)
  simp only [phased, List.flatMap_cons, List.flatMap_nil, List.take_succ_cons, List.take_zero, List.drop_succ_cons, List.drop_zero, sel_true, sel_false, sel_nil, List.map_cons, List.map_nil, List.cons_append, List.nil_append, List.append_nil]
  repeat
    apply wpSeq_read (by first | rfl | (rw [hY]; rfl))
    · intro w2 hS2
      (try simp only [Keeps, Cells] at hS2)
      (try simp only [HasC, Cells] at hS2)
      go_simp
      with_reducible rfl
    simp only [Act.put, List.setIfInBounds_toArray, List.set_cons_zero, List.set_cons_succ]
  apply wpSeq_call (by first | rfl | (rw [hY]; rfl))
  · go_simp
    with_reducible exact ⟨rfl, rfl⟩
  refine (HI.out _ (below_trans hb1 (Keeps.start hC1).1)).mono ?_
  rintro e w2 ⟨rfl, hb2⟩
  refine ⟨_, rfl, (Keeps.start hC1).step hb2, ?_⟩
  simp only [Act.put, List.setIfInBounds_toArray, List.set_cons_zero, List.set_cons_succ]
  repeat
    apply wpSeq_read (by first | rfl | (rw [hY]; rfl))
    · intro w2 hS2
      (try simp only [Keeps, Cells] at hS2)
      (try simp only [HasC, Cells] at hS2)
      go_simp
      with_reducible rfl
    simp only [Act.put, List.setIfInBounds_toArray, List.set_cons_zero, List.set_cons_succ]
  refine wpSeq_done (hF.out _ _ (fun K hK => ?_))
  clear hF hY
  go_wp2_with fail
  refine OnlyK.mk (hK.out _ _ ?_)
  clear hK
  have hB2 : Below w.heap.size w w2 := below_trans hb1 (below_trans (Keeps.start hC1).1 hb2)
  clear hC1 z2 hb2
  have S2 := HSt.out.step hB2
  obtain ⟨x0, x1, x2, x3, x4, x5, x6, x7, x8⟩ := S2.blk.nine
  have yh2 := (hB2.cell (p := ⟨gh, i, none⟩) lh).trans yh
  have fh2 := S2.oh.free i
  have f4 := S2.blk.free 4
  have f5 := S2.blk.free 5
  have S2 := Lib.hid S2
  have Hle := Lib.hid hle
  clear hhr hq9 hle hbits ed hshort hi9 hhm
  cases e0 : decide (m.len = 0) with
  | false =>
    rw [e0, Bool.false_and, Bool.false_and] at hfound
    subst hfound
    have e1 : (m.len == 0) = false := by have := of_decide_eq_false e0; simp [this]
    have S3 := Lib.hid (S2.out.putH i Hil.out m.bytes.length)
    clear e0
    go_wp2_with fail
    go_returns
    exact ⟨rfl, S3.out, (hB2.mono hBw).setCell (p := ⟨gh, i, none⟩) hgh _, (KeepF.of hB2).trans (KeepF.setO S2.out.oh (by decide))⟩
  | true =>
    have e1 : (m.len == 0) = true := by have := of_decide_eq_true e0; simp [this]
    rw [e0, Bool.true_and] at hfound
    rcases Nat.eq_zero_or_pos q with hq0 | hq0
    · rw [show decide (0 < (q : Int)) = false from decide_eq_false (by omega), Bool.false_and] at hfound
      subst hfound
      subst hq0
      clear e0
      have S3 := Lib.hid (S2.out.putH i Hil.out m.bytes.length)
      go_wp2_with fail
      go_returns
      exact ⟨rfl, S3.out, (hB2.mono hBw).setCell (p := ⟨gh, i, none⟩) hgh _, (KeepF.of hB2).trans (KeepF.setO S2.out.oh (by decide))⟩
    · rw [show decide (0 < (q : Int)) = true from decide_eq_true (by omega), Bool.true_and] at hfound
      clear e0
      have hC2 : Cells w2 [(⟨S, 3, none⟩, .slice p.ab m.bytes.length p.cb), (⟨gh, i, none⟩, .int .i64 (q : Int))] := ⟨x3, yh2, trivial⟩
      go_wp2_with fail
      refine wp_region_seq 9 1 [(true, [true, true, true, true, true, true, true, true]), (false, [false, false, false, false, false, false, false, false, true])] _ _ (Keeps w2 [(⟨S, 3, none⟩, .slice p.ab m.bytes.length p.cb), (⟨gh, i, none⟩, .int .i64 (q : Int))]) (by kernel_rfl) (List.take_append_drop 9 _).symm (by kernel_rfl) (by kernel_rfl) (by kernel_rfl) (by kernel_rfl) (Keeps.start hC2) (fun Y Q4 F4 hY hF => ?_)
      simp only [phased, List.flatMap_cons, List.flatMap_nil, List.take_succ_cons, List.take_zero, List.drop_succ_cons, List.drop_zero, sel_true, sel_false, sel_nil, List.map_cons, List.map_nil, List.cons_append, List.nil_append, List.append_nil]
      repeat
        apply wpSeq_read (by first | rfl | (rw [hY]; rfl))
        · intro w2 hS2
          (try simp only [Keeps, Cells] at hS2)
          (try simp only [HasC, Cells] at hS2)
          go_simp
          with_reducible rfl
        simp only [Act.put, List.setIfInBounds_toArray, List.set_cons_zero, List.set_cons_succ]
      apply wpSeq_call (by first | rfl | (rw [hY]; rfl))
      · go_simp
        with_reducible exact ⟨rfl, rfl⟩
      refine (HR.out _ (below_trans hB2 (Keeps.start hC2).1)).mono ?_
      rintro e w3 ⟨rfl, hb3⟩
      refine ⟨_, rfl, (Keeps.start hC2).step hb3, ?_⟩
      simp only [Act.put, List.setIfInBounds_toArray, List.set_cons_zero, List.set_cons_succ]
      refine wpSeq_done (hF.out _ _ (fun K hK => ?_))
      clear hF hY
      go_wp2_with fail
      refine OnlyK.mk (hK.out _ _ ?_)
      clear hK
      have hB3 : Below w.heap.size w w3 := below_trans hB2 (below_trans (Keeps.start hC2).1 hb3)
      have lS2 := S2.out.blk.lt
      have lh2 := S2.out.oh.lt
      have hne : ¬ S = gh := fun e => S2.out.oh.ne S2.out.blk (by decide) e.symm
      have hne2 : ¬ gh = S := fun e => hne e.symm
      clear hC2 hb3 x0 x1 x2 x3 x4 x5 x6 x7 x8 yh2 fh2 f4 f5 S2 e1
      have S3 := HSt.out.step hB3
      obtain ⟨x0, x1, x2, x3, x4, x5, x6, x7, x8⟩ := S3.blk.nine
      have yh3 := (hB3.cell (p := ⟨gh, i, none⟩) lh).trans yh
      have fh3 := S3.oh.free i
      have f4 := S3.blk.free 4
      have f5 := S3.blk.free 5
      have S3 := Lib.hid S3
      cases fd with
      | true =>
        have e4 : decide (m.least ≤ (rp : Int)) = true := hfound.symm
        have S4 := Lib.hid (((S3.out.put (m' := { m with at_ := (q : Int) }) 4 _ rfl rfl rfl rfl).put (m' := { m with at_ := (q : Int), len := (rp : Int) }) 5 _ rfl rfl rfl rfl).putH i Hil.out m.bytes.length)
        clear hfound x0 x6 x7 x8 x2
        go_wp2_with fail
        go_returns
        exact ⟨rfl, S4.out, (((hB3.mono hBw).setCell (p := ⟨S, 4, none⟩) hS _).setCell (p := ⟨S, 5, none⟩) hS _).setCell (p := ⟨gh, i, none⟩) hgh _,
          (KeepF.of hB3).trans ((KeepF.set S3.out.blk (by decide)).trans ((KeepF.set (S3.out.blk.set 4 _) (by decide)).trans (KeepF.setO ((S3.out.oh.other S 4 _ (S3.out.oh.ne S3.out.blk (by decide))).other S 5 _ (S3.out.oh.ne S3.out.blk (by decide))) (by decide))))⟩
      | false =>
        have e4 : decide (m.least ≤ (rp : Int)) = false := hfound.symm
        have S4 := Lib.hid (S3.out.putH i Hil.out m.bytes.length)
        clear hfound x0 x6 x7 x8 x2
        go_wp2_with fail
        go_returns
        exact ⟨rfl, S4.out, (hB3.mono hBw).setCell (p := ⟨gh, i, none⟩) hgh _, (KeepF.of hB3).trans (KeepF.setO S3.out.oh (by decide))⟩
end Go.Proofs.Ytbfgdaijpcbddaa
