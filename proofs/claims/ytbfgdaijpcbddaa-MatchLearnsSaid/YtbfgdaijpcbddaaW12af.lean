/- The reference's New and Index (layer 12). No condition. -/
import Derived.Test.YtbfgdaijpcbddaaW12ae
set_option linter.unusedSimpArgs false
set_option linter.unusedVariables false
set_option linter.unusedSectionVars false
namespace Go.Proofs.Ytbfgdaijpcbddaa
open Go.RowKit

theorem Rd.of_owns2 {w : World} {base : Nat} {e : TypeId} {size n cap : Nat} {a : Option Addr} {xs : List Value} (h : w.ownsRow base e size (.slice a n cap) n xs) : Rd w a xs ∧ (∀ g o, a = some ⟨g, o, none⟩ → base ≤ g) := by
  refine ⟨Rd.of_owns h, fun g o e => (h.lt g (by rw [e]; rfl)).1⟩

set_option maxRecDepth 100000 in
set_option maxHeartbeats 1000000 in
theorem rnew12_bad (bits least : Int) (w : World) (hno : S12.okN bits least = false) :
    Calls Try.prog 18 #[.int .i64 bits, .int .i64 least] w fun e w' => e = .returned (.tuple #[.agg #[.int .i64 0, .int .i64 0, .slice none 0 0, .slice none 0 0, .int .i64 0, .int .i64 0, .int .i64 0, .int .i64 0, .slice none 0 0], .int .i64 2]) ∧ Below w.heap.size w w' := by
  have B0 := Blk.new w [.int .i64 0, .int .i64 0, .slice none 0 0, .slice none 0 0, .int .i64 0, .int .i64 0, .int .i64 0, .int .i64 0, .slice none 0 0] 27
  have hB1 : Below w.heap.size w (w.alloc (.cells #[.int .i64 0, .int .i64 0, .slice none 0 0, .slice none 0 0, .int .i64 0, .int .i64 0, .int .i64 0, .int .i64 0, .slice none 0 0] 27)) := (Below.refl _ _).alloc (Nat.le_refl _) _
  obtain ⟨w0, hw0⟩ : ∃ w0, (w.alloc (.cells #[.int .i64 0, .int .i64 0, .slice none 0 0, .slice none 0 0, .int .i64 0, .int .i64 0, .int .i64 0, .int .i64 0, .slice none 0 0] 27)) = w0 := ⟨_, rfl⟩
  rw [hw0] at hB1
  have B1 : Blk w0 w.heap.size [.int .i64 0, .int .i64 0, .slice none 0 0, .slice none 0 0, .int .i64 0, .int .i64 0, .int .i64 0, .int .i64 0, .slice none 0 0] 27 := by rw [← hw0]; exact B0
  clear B0
  obtain ⟨x0, x1, x2, x3, x4, x5, x6, x7, x8⟩ := B1.nine
  have f0 := B1.free 0
  have f1 := B1.free 1
  have f2 := B1.free 2
  have f3 := B1.free 3
  have f4 := B1.free 4
  have f5 := B1.free 5
  have f6 := B1.free 6
  have f7 := B1.free 7
  have f8 := B1.free 8
  have B2 := B1.put9 (.int .i64 0) (.int .i64 0) (.slice none 0 0) (.slice none 0 0) (.int .i64 0) (.int .i64 0) (.int .i64 0) (.int .i64 0) (.slice none 0 0)
  obtain ⟨y0, y1, y2, y3, y4, y5, y6, y7, y8⟩ := B2.nine
  have hfin := below_put9 hB1 (Nat.le_refl _) (.int .i64 0) (.int .i64 0) (.slice none 0 0) (.slice none 0 0) (.int .i64 0) (.int .i64 0) (.int .i64 0) (.int .i64 0) (.slice none 0 0)
  have hcases : bits < 1 ∨ (¬ bits < 1 ∧ 16 < bits) ∨ (¬ bits < 1 ∧ ¬ 16 < bits ∧ least < 1) ∨ (¬ bits < 1 ∧ ¬ 16 < bits ∧ ¬ least < 1 ∧ 32 < least) := by
    unfold S12.okN at hno
    have hd : ¬ ((1 ≤ bits ∧ bits ≤ 16) ∧ (1 ≤ least ∧ least ≤ 32)) := fun h => by rw [decide_eq_true h.1, decide_eq_true h.2] at hno; cases hno
    omega
  have Hf := Lib.hid hfin
  clear hno B1 B2 hfin hB1
  rcases hcases with h1 | ⟨h1, h2⟩ | ⟨h1, h2, h3⟩ | ⟨h1, h2, h3, h4⟩
  all_goals
    go_enter Try.func18, Try.ntmps18
    go_wp2_with (exact bodyPost_ret (v := .tuple #[.agg #[.int .i64 0, .int .i64 0, .slice none 0 0, .slice none 0 0, .int .i64 0, .int .i64 0, .int .i64 0, .int .i64 0, .slice none 0 0], .int .i64 2]) (by simp [results, Try.results18, go_sem, y0, y1, y2, y3, y4, y5, y6, y7, y8]) rfl ⟨rfl, Hf.out⟩)

set_option maxRecDepth 100000 in
set_option maxHeartbeats 1000000 in
theorem rnew12_ok (n : Nat) (least : Int) (w : World) (h1 : 1 ≤ n ∧ n ≤ 16) (h2 : 1 ≤ least ∧ least ≤ 32) :
    Calls Try.prog 18 #[.int .i64 (n : Int), .int .i64 least] w fun e w' => ∃ h a c, e = .returned (.tuple #[.agg #[.int .i64 (n : Int), .int .i64 least, .slice (some ⟨h, 0, none⟩) (2 ^ n) (2 ^ n), .slice none 0 0, .int .i64 0, .int .i64 0, .int .i64 1, .int .i64 2, .slice a 16 c], .int .i64 0]) ∧
      w.heap.size ≤ h ∧ (∀ g o, a = some ⟨g, o, none⟩ → w.heap.size ≤ g) ∧ Rd w' (some ⟨h, 0, none⟩) (Ints (List.replicate (2 ^ n) 0)) ∧ Rd w' a (Cts (List.replicate 16 (32768, 0))) ∧ Below w.heap.size w w' := by
  have HT := Lib.hid fun W => refTable08_any 16 W (by omega) (by omega)
  rw [table_16.1, table_16.2, ← Cts_fresh] at HT
  have B0 := Blk.new w [.int .i64 0, .int .i64 0, .slice none 0 0, .slice none 0 0, .int .i64 0, .int .i64 0, .int .i64 0, .int .i64 0, .slice none 0 0] 27
  have d1 : ¬ (n : Int) < 1 := by omega
  have d2 : ¬ 16 < (n : Int) := by omega
  have d3 : ¬ least < 1 := by omega
  have d4 : ¬ 32 < least := by omega
  have hps : 2 ^ n ≤ 65536 := Nat.pow_le_pow_right (n := 2) (by omega) (show n ≤ 16 by omega)
  have hsh : IntKind.i64.wrap ((2 : Int) ^ n) = ((2 ^ n : Nat) : Int) := by
    have e : (2 : Int) ^ n = ((2 ^ n : Nat) : Int) := by simp
    rw [e]; exact wrap_i64_nat (by omega)
  obtain ⟨N, hN⟩ : ∃ N, 2 ^ n = N := ⟨_, rfl⟩
  rw [hN] at hsh hps ⊢
  clear hN
  go_enter Try.func18, Try.ntmps18
  go_wp2_with fail
  refine (HT.out _).mono ?_
  rintro e w3 ⟨a, c, rfl, hown3, hb3⟩
  have hB3 : Below w.heap.size w w3 := below_trans (by go_grown) hb3
  obtain ⟨hr3, hf3⟩ := Rd.of_owns2 hown3
  rw [World.size_alloc] at hf3
  have B3 := B0.step hb3
  clear B0 hown3
  have Hr3 := Lib.hid hr3
  clear hr3
  obtain ⟨w4, hw4⟩ : ∃ w4, w3.alloc (.cells (List.replicate N (.int .i64 0)).toArray 3) = w4 := ⟨_, rfl⟩
  have hb4 : Below w3.heap.size w3 w4 := by rw [← hw4]; exact (Below.refl _ _).alloc (Nat.le_refl _) _
  have H4 : Blk w4 w3.heap.size (List.replicate N (.int .i64 0)) 3 := by rw [← hw4]; exact Blk.new w3 _ _
  have hB4 := below_trans hB3 hb4
  have B4 := B3.step hb4
  have lt1 := B3.lt
  obtain ⟨x0, x1, x2, x3, x4, x5, x6, x7, x8⟩ := B4.nine
  have f0 := B4.free 0
  have f1 := B4.free 1
  have f2 := B4.free 2
  have f3 := B4.free 3
  have f4 := B4.free 4
  have f5 := B4.free 5
  have f6 := B4.free 6
  have f7 := B4.free 7
  have f8 := B4.free 8
  have B5 := B4.put9 (.int .i64 (n : Int)) (.int .i64 least) (.slice (some ⟨w3.heap.size, 0, none⟩) N N) (.slice none 0 0) (.int .i64 0) (.int .i64 0) (.int .i64 1) (.int .i64 2) (.slice a 16 c)
  have hB5 := below_put9 hB4 (Nat.le_refl _) (.int .i64 (n : Int)) (.int .i64 least) (.slice (some ⟨w3.heap.size, 0, none⟩) N N) (.slice none 0 0) (.int .i64 0) (.int .i64 0) (.int .i64 1) (.int .i64 2) (.slice a 16 c)
  obtain ⟨y0, y1, y2, y3, y4, y5, y6, y7, y8⟩ := B5.nine
  go_wp2_with first
    | (at_make; refine wpList_value rfl (op_make1 (.tmp 30) 24 3 8 (.int .i64 0) elems_int12 rfl .i64 N (by first | rfl | (show Value.int .i64 (wrap64 _) = _; rw [show wrap64 ((2 : Int) ^ n) = (N : Int) from hsh])) (by omega) (by unfold maxLen; omega)) ?_; rw [hw4]; clear hw4)
    | (exact bodyPost_ret (v := .tuple #[.agg #[.int .i64 (n : Int), .int .i64 least, .slice (some ⟨w3.heap.size, 0, none⟩) N N, .slice none 0 0, .int .i64 0, .int .i64 0, .int .i64 1, .int .i64 2, .slice a 16 c], .int .i64 0]) (by simp [results, Try.results18, go_sem, y0, y1, y2, y3, y4, y5, y6, y7, y8]) rfl ⟨_, _, _, rfl, hB3.size, fun g o e => Nat.le_trans (Nat.le_succ _) (hf3 g o e), Rd.put9 (by rw [Ints_zeros]; exact fun _ => ⟨_, 0, rfl, H4.cells⟩) (fun g o e _ => by cases e; have := hb3.size; omega) _ _ _ _ _ _ _ _ _, (Hr3.out.step hb4).put9 (fun g o e _ => by have := hf3 g o e; omega) _ _ _ _ _ _ _ _ _, hB5⟩)

theorem rnew12_any (bits least : Int) (w : World) :
    Calls Try.prog 18 #[.int .i64 bits, .int .i64 least] w fun e w' => ∃ p, e = .returned (.tuple #[MV (S12.newM bits least) p, .int .i64 (S12.newE bits least)]) ∧ MIs (S12.newM bits least) p w' ∧ Below w.heap.size w w' := by
  unfold S12.newM S12.newE
  cases hno : S12.okN bits least with
  | false =>
    refine (rnew12_bad bits least w hno).mono ?_
    rintro e w' ⟨rfl, hb⟩
    exact ⟨_, rfl, MIs.zero _, hb⟩
  | true =>
    have h := hno
    unfold S12.okN at h
    simp only [Bool.and_eq_true, decide_eq_true_eq] at h
    obtain ⟨n, rfl⟩ : ∃ n : Nat, bits = n := ⟨bits.toNat, by omega⟩
    refine (rnew12_ok n least w (by omega) h.2).mono ?_
    rintro e w' ⟨g, a, c, rfl, _, _, hg, ha, hb⟩
    simp only [if_true, Int.toNat_natCast]
    have hps : 2 ^ n ≤ 65536 := Nat.pow_le_pow_right (n := 2) (by omega) (show n ≤ 16 by omega)
    refine ⟨⟨some ⟨g, 0, none⟩, 2 ^ n, none, 0, a, c⟩, ?_, ⟨hg, Rd.nil _ _, ha, fun _ hx => absurd hx List.not_mem_nil, Nat.le_refl _, by simp; omega, Nat.zero_le _, by simp⟩, hb⟩
    simp [MV, MVals]

set_option maxRecDepth 100000 in
set_option maxHeartbeats 2000000 in
theorem rindex12_any (xs : List Int) (n L : Nat) (a : Option Addr) (cap : Nat) (w : World) (hbits : 1 ≤ n ∧ n ≤ 16) (hle : 1 ≤ L ∧ L ≤ 32) (hlen : L ≤ xs.length) (hmax : xs.length ≤ 65537) (hX : S12.Byt xs) (hrd : Rd w a (Bts xs)) :
    Calls Try.prog 62 #[.slice a xs.length cap, .int .i64 (n : Int), .int .i64 (L : Int)] w fun e w' => e = .returned (.int .i64 (S12.idx xs (n : Int) (L : Int) : Int)) ∧ Below w.heap.size w w' := by
  obtain ⟨g, o, rfl, hcs⟩ := Bts_at hrd (i := 0) (by omega)
  obtain ⟨st, hst⟩ : ∃ st : Nat, xs.length - L = st := ⟨_, rfl⟩
  obtain ⟨ys, hys⟩ : ∃ ys : List Int, xs.drop st = ys := ⟨_, rfl⟩
  have hyl : ys.length = L := by rw [← hys, List.length_drop]; omega
  have hcy : ∀ j, j < L → w.cell? ⟨g, o + (st + j), none⟩ = some (.int .u8 (ys.getD j 0)) := fun j hj => by
    rw [hcs (st + j) (by omega), ← hys, List.getD, List.getD, List.getElem?_drop]
  have hyb : ∀ j, 0 ≤ ys.getD j 0 ∧ ys.getD j 0 < 256 := fun j => by
    have e : ys.getD j 0 = xs.getD (st + j) 0 := by rw [← hys, List.getD, List.getD, List.getElem?_drop]
    rw [e]
    exact ⟨hX.get _, by have := hX.at (st + j); have := hX.get (st + j); omega⟩
  have hidx : S12.idx xs (n : Int) (L : Int) = S12.hash ys / 2 ^ (32 - n) := by
    unfold S12.idx
    rw [Int.toNat_natCast, Int.toNat_natCast, hst, hys]
  rw [hidx]
  obtain ⟨q, hq⟩ : ∃ q, S12.hash ys / 2 ^ (32 - n) = q := ⟨_, rfl⟩
  rw [hq]
  have Hq := Lib.hid hq
  obtain ⟨N, hN⟩ : ∃ N, xs.length = N := ⟨_, rfl⟩
  rw [hN] at hst hlen hmax ⊢
  have e0 : (N : Int) - (L : Int) = (st : Int) := by omega
  have Hcy := Lib.hid hcy
  have Hyb := Lib.hid hyb
  have Hst := Lib.hid hst
  have Hyl := Lib.hid hyl
  clear hq hidx hys hcs hrd hcy hyb hN hst hyl
  go_enter Try.func62, Try.ntmps62
  go_wp2_with fail
  go_loopw [7, 8] (fun h i wr => ∃ k : Nat, k ≤ L ∧ i = .int .i64 ((st + k : Nat) : Int) ∧ h = .int .u32 (S12.hash (ys.take k) : Int) ∧ Below w.heap.size w wr) (fun _ i _ => N - (intOf i).toNat)
  case atStart => exact ⟨0, by omega, rfl, rfl, Below.refl _ w⟩
  case round =>
    obtain ⟨k, hk, rfl, rfl, hB⟩ := hrel
    have hst := Hst.out
    by_cases hlt : k < L
    · have hcc := (hB.cell (p := ⟨g, o + (st + k), none⟩) (block_lt_of_cell (Hcy.out k hlt))).trans (Hcy.out k hlt)
      have HT := Lib.hid (S12.hash_take (ys := ys) (k := k) (by rw [Hyl.out]; omega))
      have hHl := S12.hash_lt (ys.take k)
      obtain ⟨H, hH⟩ : ∃ H, S12.hash (ys.take k) = H := ⟨_, rfl⟩
      obtain ⟨x, hx⟩ : ∃ x : Nat, ys.getD k 0 = x := ⟨(ys.getD k 0).toNat, by have := Hyb.out k; omega⟩
      have hx2 : x < 256 := by have := Hyb.out k; omega
      rw [hH, hx, Int.toNat_natCast] at HT
      rw [hH] at hHl ⊢
      rw [hx] at hcc
      have hm := mul_mod_cast H x S12.factor 4294967296 2654435761 4294967296 rfl rfl
      obtain ⟨H', hH'⟩ : ∃ H', (H + x + 1) * S12.factor % 4294967296 = H' := ⟨_, rfl⟩
      rw [hH'] at hm HT
      clear hx hH hH' hst
      obtain ⟨ii, hii⟩ : ∃ ii, st + k = ii := ⟨_, rfl⟩
      have hiN : ii < N := by have := Hst.out; omega
      rw [hii] at hcc ⊢
      have Hii := Lib.hid hii
      clear hii
      go_wp2_with fail
      go_roundw
      case rel => exact ⟨k + 1, by omega, by have := Hii.out; go_num, by rw [HT.out, hm], hB⟩
      case measure => simp [intOf]; omega
    · obtain rfl : k = L := by omega
      have e : ys.take k = ys := List.take_of_length_le (by rw [Hyl.out]; omega)
      rw [e]
      have hHl := S12.hash_lt ys
      have hq := Hq.out
      obtain ⟨H, hH⟩ : ∃ H, S12.hash ys = H := ⟨_, rfl⟩
      rw [hH] at hHl hq ⊢
      have hw := div_cast H (32 - n)
      have hq2 : q < 4294967296 := by rw [← hq]; exact Nat.lt_of_le_of_lt (Nat.div_le_self _ _) hHl
      rw [hq] at hw
      have hsN : st + k = N := by omega
      rw [hsN]
      clear hH e hq hst hsN
      go_wp2_with fail
      go_returns
      exact ⟨rfl, hB⟩
end Go.Proofs.Ytbfgdaijpcbddaa
