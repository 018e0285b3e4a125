/- index (layer 12). No condition. -/
import Derived.Test.YtbfgdaijpcbddaaW12l
set_option linter.unusedSimpArgs false
set_option linter.unusedVariables false
set_option linter.unusedSectionVars false
namespace Go.Proofs.Ytbfgdaijpcbddaa
open Go.RowKit

theorem foldl_take (f : Nat → Int → Nat) (z : Nat) (ys : List Int) (k : Nat) (hk : k < ys.length) : (ys.take (k + 1)).foldl f z = f ((ys.take k).foldl f z) (ys.getD k 0) := by
  rw [List.take_succ_eq_append_getElem hk, List.foldl_append, S12.getD_in _ _ hk]
  rfl
theorem S12.hash_take {ys : List Int} {k : Nat} (hk : k < ys.length) : S12.hash (ys.take (k + 1)) = (S12.hash (ys.take k) + (ys.getD k 0).toNat + 1) * S12.factor % 4294967296 := by
  unfold S12.hash
  exact foldl_take _ 0 ys k hk
theorem mul_mod_cast (H x f M : Nat) (fi Mi : Int) (hf : (f : Int) = fi) (hM : (M : Int) = Mi) : (((H : Int) + (x : Int) + 1) % Mi * fi) % Mi = (((H + x + 1) * f % M : Nat) : Int) := by
  subst hf hM
  have e : (H : Int) + (x : Int) + 1 = ((H + x + 1 : Nat) : Int) := by omega
  rw [e, ← Int.natCast_emod, ← Int.natCast_mul, ← Int.natCast_emod, Nat.mod_mul_mod]
theorem div_cast (H n : Nat) : (H : Int) / 2 ^ n = ((H / 2 ^ n : Nat) : Int) := by rw [Int.natCast_ediv, Int.natCast_pow]; rfl
set_option maxRecDepth 100000 in
set_option maxHeartbeats 2000000 in
theorem index12_any (B S gh gc : Nat) (m : S12.M) (p : Pl) (w : World) (h : St B S gh gc m p w) (hbits : 1 ≤ m.bits ∧ m.bits ≤ 16) (hle : 1 ≤ m.least ∧ m.least ≤ 32) (hlen : m.least ≤ m.bytes.length) (hmax : m.bytes.length ≤ 65537) (hbyt : S12.Byt m.bytes) :
    Calls Try.prog 59 #[.pointer (some ⟨S, 0, none⟩)] w fun e w' => e = .returned (.int .i64 (S12.idx m.bytes m.bits m.least : Int)) ∧ Below w.heap.size w w' := by
  obtain ⟨x0, x1, x2, x3, x4, x5, x6, x7, x8⟩ := h.blk.nine
  have hrd := Rd.of_owns h.ob
  have hcap : m.bytes.length ≤ p.cb := by
    obtain ⟨a, c, e, h1, h2⟩ := owns_slice h.ob
    simp at e
    omega
  clear h
  obtain ⟨bits, least, heads, bytes, at_, len, part, bit, ctrs⟩ := m
  simp only at *
  obtain ⟨L, hL⟩ : ∃ L : Nat, least = L := ⟨least.toNat, by omega⟩
  subst hL
  obtain ⟨n, hn⟩ : ∃ n : Nat, bits = n := ⟨bits.toNat, by omega⟩
  subst hn
  obtain ⟨g, o, hab, hcs⟩ := Bts_at hrd (i := 0) (by omega)
  rw [hab] at x3
  clear hrd hab x2 x4 x5 x6 x7 x8
  obtain ⟨st, hst⟩ : ∃ st : Nat, st = bytes.length - L := ⟨_, rfl⟩
  obtain ⟨ys, hys⟩ : ∃ ys : List Int, bytes.drop st = ys := ⟨_, rfl⟩
  have hyl : ys.length = L := by rw [← hys, List.length_drop]; omega
  have hcy : ∀ j, j < L → w.cell? ⟨g, o + st + j, none⟩ = some (.int .u8 (ys.getD j 0)) := fun j hj => by
    rw [Nat.add_assoc, hcs (st + j) (by omega), ← hys, List.getD, List.getD, List.getElem?_drop]
  have hyb : ∀ j, 0 ≤ ys.getD j 0 ∧ ys.getD j 0 < 256 := fun j => by
    have e : ys.getD j 0 = bytes.getD (st + j) 0 := by rw [← hys, List.getD, List.getD, List.getElem?_drop]
    rw [e]
    exact ⟨hbyt.get _, by have := hbyt.at (st + j); have := hbyt.get (st + j); omega⟩
  have hidx : S12.idx bytes (n : Int) (L : Int) = S12.hash ys / 2 ^ (32 - n) := by
    unfold S12.idx
    rw [Int.toNat_natCast, Int.toNat_natCast, ← hst, hys]
  rw [hidx]
  obtain ⟨q, hq⟩ : ∃ q, S12.hash ys / 2 ^ (32 - n) = q := ⟨_, rfl⟩
  rw [hq]
  have Hq := Lib.hid hq
  clear hq
  have hC : Cells w [(⟨S, 3, none⟩, .slice (some ⟨g, o, none⟩) bytes.length p.cb), (⟨S, 1, none⟩, .int .i64 (L : Int))] := ⟨x3, x1, trivial⟩
  have hw1 : IntKind.i64.wrap ((bytes.length : Int) - (L : Int)) = (st : Int) := by rw [IntWalk.i64_in _ (by omega)]; omega
  have hsl : (bytes.length : Int) - (st : Int) = (L : Int) := by omega
  have hsn : bytes.length - st = L := by omega
  have hcne : ¬ p.cb = st := by omega
  have hstl : st ≤ bytes.length := by omega
  clear hidx hys hcs hst
  go_enter Try.func59, Try.ntmps59
  go_wp2_with fail
  refine wp_region_seq 20 0 [(true, [true, true, true, true, true, true, true, true, true, true, true, true, true, true, true, true, true, true, true, true])] _ _ (Keeps w [(⟨S, 3, none⟩, .slice (some ⟨g, o, none⟩) bytes.length p.cb), (⟨S, 1, none⟩, .int .i64 (L : Int))]) (by kernel_rfl) (List.take_append_drop 20 _).symm (by kernel_rfl) (by kernel_rfl) (by kernel_rfl) (by kernel_rfl) (Keeps.start hC) (fun Y Q4 F4 hY hF => ?_)
  simp only [phased, List.flatMap_cons, List.flatMap_nil, List.take_succ_cons, List.take_zero, List.drop_succ_cons, List.drop_zero, sel_true, sel_false, sel_nil, List.map_cons, List.map_nil, List.cons_append, List.nil_append, List.append_nil]
  repeat
    apply wpSeq_read (by first | rfl | (rw [hY]; rfl))
    · intro w2 hS2
      (try simp only [Keeps, Cells] at hS2)
      (try simp only [HasC, Cells] at hS2)
      go_simp
      with_reducible rfl
    simp only [Act.put, List.setIfInBounds_toArray, List.set_cons_zero, List.set_cons_succ]
  refine wpSeq_done (hF.out _ _ (fun K hK => ?_))
  clear hF hY
  go_wp2_with fail
  refine OnlyK.mk (hK.out _ _ ?_)
  clear hK hC x3 hw1 hsl hsn hcne hstl
  go_wp2_with fail
  go_loopw [3, 25] (fun h i wr => ∃ k : Nat, k ≤ L ∧ i = .int .i64 (k : Int) ∧ h = .int .u32 (S12.hash (ys.take k) : Int) ∧ Below w.heap.size w wr) (fun _ i _ => L - (intOf i).toNat)
  case atStart => exact ⟨0, by omega, rfl, rfl, (Below.refl _ w).drew⟩
  case round =>
    obtain ⟨k, hk, rfl, rfl, hB⟩ := hrel
    have zr : w.heap.size ≤ wr.heap.size := hB.size
    by_cases hlt : k < L
    · have hcc := (hB.cell (p := ⟨g, o + st + k, none⟩) (block_lt_of_cell (hcy k hlt))).trans (hcy k hlt)
      have HT := Lib.hid (S12.hash_take (ys := ys) (k := k) (by omega))
      have hHl := S12.hash_lt (ys.take k)
      obtain ⟨H, hH⟩ : ∃ H, S12.hash (ys.take k) = H := ⟨_, rfl⟩
      obtain ⟨x, hx⟩ : ∃ x : Nat, ys.getD k 0 = x := ⟨(ys.getD k 0).toNat, by have := hyb k; omega⟩
      have hx2 : x < 256 := by have := hyb k; omega
      rw [hH, hx, Int.toNat_natCast] at HT
      rw [hH] at hHl ⊢
      rw [hx] at hcc
      have hm := mul_mod_cast H x S12.factor 4294967296 2654435761 4294967296 rfl rfl
      obtain ⟨H', hH'⟩ : ∃ H', (H + x + 1) * S12.factor % 4294967296 = H' := ⟨_, rfl⟩
      rw [hH'] at hm HT
      clear hx hH hyb hcy hH'
      go_wp2_with fail
      go_roundw
      case rel => exact ⟨k + 1, by omega, by go_num, by rw [HT.out, hm], hB⟩
      case measure => simp [intOf]; omega
    · obtain rfl : k = L := by omega
      have e : ys.take k = ys := List.take_of_length_le (by omega)
      rw [e]
      have hHl := S12.hash_lt ys
      have x0r := (hB.cell (p := ⟨S, 0, none⟩) (block_lt_of_cell x0)).trans x0
      have hq := Hq.out
      obtain ⟨H, hH⟩ : ∃ H, S12.hash ys = H := ⟨_, rfl⟩
      rw [hH] at hHl hq ⊢
      have hw := div_cast H (32 - n)
      have hq2 : q < 4294967296 := by rw [← hq]; exact Nat.lt_of_le_of_lt (Nat.div_le_self _ _) hHl
      rw [hq] at hw
      clear hcy hyb hH e hq
      go_wp2_with fail
      go_returns
      exact ⟨rfl, hB⟩
end Go.Proofs.Ytbfgdaijpcbddaa
