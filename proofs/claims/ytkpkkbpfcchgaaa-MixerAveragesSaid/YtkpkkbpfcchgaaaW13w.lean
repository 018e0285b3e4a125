/- Lessons as cells, and the inputs of a lesson (law 13). No condition. -/
import Derived.Test.YtkpkkbpfcchgaaaSpec13b
import Derived.Test.YtkpkkbpfcchgaaaW13u
import Derived.Test.YtkpkkbpfcchgaaaBase12
set_option linter.unusedSimpArgs false
set_option linter.unusedVariables false
set_option linter.unusedSectionVars false
namespace Go.Proofs.Ytkpkkbpfcchgaaa
open Go.RowKit

def Lsns (xs : List Lsn) : List Value := (xs.map Lsn.cells).flatten
theorem Lsns_length (xs : List Lsn) : (Lsns xs).length = 6 * xs.length := by
  induction xs with
  | nil => rfl
  | cons x xs ih => simp [Lsns, Lsn.cells] at *; omega
theorem Lsns_append (xs ys : List Lsn) : Lsns (xs ++ ys) = Lsns xs ++ Lsns ys := by simp [Lsns]
theorem Lsns_at : ∀ (xs : List Lsn) {i j : Nat} {x : Lsn}, xs[i]? = some x → j < 6 → (Lsns xs)[6 * i + j]? = x.cells[j]?
  | [], i, j, x, h, _ => by simp at h
  | y :: xs, 0, j, x, h, hj => by
    simp at h; subst h
    show (y.cells ++ Lsns xs)[6 * 0 + j]? = _
    rw [Nat.mul_zero, Nat.zero_add, List.getElem?_append_left (by simp [Lsn.cells]; omega)]
  | y :: xs, i + 1, j, x, h, hj => by
    show (y.cells ++ Lsns xs)[6 * (i + 1) + j]? = _
    have hl : y.cells.length = 6 := rfl
    rw [List.getElem?_append_right (by rw [hl]; omega), hl, show 6 * (i + 1) + j - 6 = 6 * i + j by omega]
    exact Lsns_at xs (by simpa using h) hj
theorem Lsns_cells {w : World} {a : Option Addr} {xs : List Lsn} (h : Rd w a (Lsns xs)) {i : Nat} {x : Lsn} (hx : xs[i]? = some x) : ∃ g o, a = some ⟨g, o, none⟩ ∧
    w.cell? ⟨g, o + i * 6, none⟩ = some (.int .u8 x.ctx) ∧ w.cell? ⟨g, o + i * 6 + 1, none⟩ = some (.int .u8 x.rate) ∧ w.cell? ⟨g, o + i * 6 + 2, none⟩ = some (.bool x.bit) ∧ w.cell? ⟨g, o + i * 6 + 3, none⟩ = some (.int .i16 x.i0) ∧ w.cell? ⟨g, o + i * 6 + 4, none⟩ = some (.int .i16 x.i1) ∧ w.cell? ⟨g, o + i * 6 + 5, none⟩ = some (.int .i16 x.i2) := by
  have hi : i < xs.length := (List.getElem?_eq_some_iff.1 hx).1
  obtain ⟨g, o, rfl, hcs⟩ := h.at (i := 6 * i) (by rw [Lsns_length]; omega)
  have key : ∀ j v, j < 6 → x.cells[j]? = some v → w.cell? ⟨g, o + (6 * i + j), none⟩ = some v := fun j v hj hv => by
    have h1 := Lsns_at xs hx hj
    rw [hv] at h1
    obtain ⟨h2, h3⟩ := List.getElem?_eq_some_iff.1 h1
    rw [hcs _ h2, h3]
  rw [Nat.mul_comm i 6]
  exact ⟨g, o, rfl, key 0 _ (by omega) rfl, key 1 _ (by omega) rfl, key 2 _ (by omega) rfl, key 3 _ (by omega) rfl, key 4 _ (by omega) rfl, key 5 _ (by omega) rfl⟩

theorem Lsns_one (xs : List Lsn) : ∀ u ∈ Lsns xs, u.oneCell' = true := by
  intro u hu
  simp only [Lsns, List.mem_flatten, List.mem_map] at hu
  obtain ⟨l, ⟨x, _, rfl⟩, hu⟩ := hu
  simp only [Lsn.cells, List.mem_cons, List.not_mem_nil, or_false] at hu
  rcases hu with rfl | rfl | rfl | rfl | rfl | rfl <;> rfl

set_option maxHeartbeats 2000000 in
theorem inputs13_any (x : Lsn) (back : Bool) (w : World) (hx : x.ok) :
    Calls Try.prog 22 #[.agg #[.int .u8 x.ctx, .int .u8 x.rate, .bool x.bit, .int .i16 x.i0, .int .i16 x.i1, .int .i16 x.i2], .bool back] w fun e w' =>
      ∃ a cap, e = .returned (.slice a 3 cap) ∧ Rd w' a (Ints (S13.ins back x)) ∧ Below w.heap.size w w' := by
  obtain ⟨_, _, _, _, g0, g0', g1, g1', g2, g2'⟩ := hx
  have m0 := S13.tmod_bounds x.i0
  have m1 := S13.tmod_bounds x.i1
  have m2 := S13.tmod_bounds x.i2
  have e0 : IntKind.i64.wrap x.i0 = x.i0 := IntWalk.i64_in _ (by omega)
  have e1 : IntKind.i64.wrap x.i1 = x.i1 := IntWalk.i64_in _ (by omega)
  have e2 : IntKind.i64.wrap x.i2 = x.i2 := IntWalk.i64_in _ (by omega)
  have f0 : IntKind.i64.wrap (x.i0.tmod 3072) = x.i0.tmod 3072 := IntWalk.i64_in _ (by omega)
  have f1 : IntKind.i64.wrap (x.i1.tmod 3072) = x.i1.tmod 3072 := IntWalk.i64_in _ (by omega)
  have f2 : IntKind.i64.wrap (x.i2.tmod 3072) = x.i2.tmod 3072 := IntWalk.i64_in _ (by omega)
  have Hins := Lib.hid (show S13.ins back x = if back then [x.i2.tmod 3072, x.i1.tmod 3072, x.i0.tmod 3072] else [x.i0.tmod 3072, x.i1.tmod 3072, x.i2.tmod 3072] from rfl)
  go_enter Try.func22, Try.ntmps22
  go_wp2
  have hb0 := Blk.new w [.int .u8 x.ctx, .int .u8 x.rate, .bool x.bit, .int .i16 x.i0, .int .i16 x.i1, .int .i16 x.i2] 50
  go_loopw [5, 6] (fun v i wr => ∃ (k : Nat) (a : Option Addr) (cap : Nat), k ≤ 3 ∧ i = .int .i64 k ∧ v = .slice a k cap ∧ wr.ownsRow (w.heap.size + 1) 3 1 (.slice a k cap) k (Ints ((S13.ins back x).take k)) ∧ Blk wr w.heap.size [.int .u8 x.ctx, .int .u8 x.rate, .bool x.bit, .int .i16 x.i0, .int .i16 x.i1, .int .i16 x.i2] 50 ∧ Below w.heap.size w wr) (fun _ i _ => 3 - (intOf i).toNat)
  case atStart => exact ⟨0, none, 0, by omega, rfl, rfl, by simpa [Ints] using World.ownsRow_nil _ _ _ _, hb0, by go_grown⟩
  case round =>
    obtain ⟨k, a, cap, hk, rfl, rfl, hown, hblk, hB⟩ := hrel
    have zr : w.heap.size < wr.heap.size := hblk.lt
    have hc3 := hblk.cell 3
    have hc4 := hblk.cell 4
    have hc5 := hblk.cell 5
    simp only [List.getElem?_cons_zero, List.getElem?_cons_succ] at hc3 hc4 hc5
    have Hown := Lib.hid hown
    have Hblk := Lib.hid hblk
    clear hown hblk
    rcases (show k = 0 ∨ k = 1 ∨ k = 2 ∨ k = 3 by omega) with rfl | rfl | rfl | rfl
    case inr.inr.inr =>
      go_wp2
      go_returns
      refine ⟨a, cap, rfl, ?_, hB⟩
      have := Rd.of_owns Hown.out
      rwa [List.take_of_length_le (by rw [S13.ins_length]; omega)] at this
    · cases back
      · go_wp2_with (at_builtin; refine wpList_append_rd _ _ 36 3 1 8 _ (w.heap.size + 1) elems_ints rfl rfl _ 0 (Ints ((S13.ins false x).take 0)) rfl (Hown.out.alloc _) (some ⟨wr.heap.size, 0, none⟩) 1 1 [.int .i64 (x.i0.tmod 3072)] rfl rfl (Rd.new wr [.int .i64 (x.i0.tmod 3072)] 3) (by simp [Value.oneCell']) (by unfold maxLen; omega) (by omega) (by simp; omega) ?_; intro a2 cap2 w2 hown2 hgrow2; have hB2 : Below w.heap.size w w2 := Below.grown (by go_grown) hgrow2 (by simp; omega) (fun j e => by have := (Hown.out.lt j e).1; omega); have Hblk2 := Lib.hid ((Hblk.out.alloc (Obj.cells #[.int .i64 (x.i0.tmod 3072)] 3)).grown hgrow2 (fun e => by have := (Hown.out.lt _ e.symm).1; omega)); have Hown2 := Lib.hid hown2; clear hown2 hgrow2)
        go_roundw
        case rel => exact ⟨1, a2, cap2, by omega, by go_num, rfl, by simpa [S13.ins, Ints] using Hown2.out, Hblk2.out, hB2⟩
        case measure => simp [intOf]
      · go_wp2_with (at_builtin; refine wpList_append_rd _ _ 36 3 1 8 _ (w.heap.size + 1) elems_ints rfl rfl _ 0 (Ints ((S13.ins true x).take 0)) rfl (Hown.out.alloc _) (some ⟨wr.heap.size, 0, none⟩) 1 1 [.int .i64 (x.i2.tmod 3072)] rfl rfl (Rd.new wr [.int .i64 (x.i2.tmod 3072)] 3) (by simp [Value.oneCell']) (by unfold maxLen; omega) (by omega) (by simp; omega) ?_; intro a2 cap2 w2 hown2 hgrow2; have hB2 : Below w.heap.size w w2 := Below.grown (by go_grown) hgrow2 (by simp; omega) (fun j e => by have := (Hown.out.lt j e).1; omega); have Hblk2 := Lib.hid ((Hblk.out.alloc (Obj.cells #[.int .i64 (x.i2.tmod 3072)] 3)).grown hgrow2 (fun e => by have := (Hown.out.lt _ e.symm).1; omega)); have Hown2 := Lib.hid hown2; clear hown2 hgrow2)
        go_roundw
        case rel => exact ⟨1, a2, cap2, by omega, by go_num, rfl, by simpa [S13.ins, Ints] using Hown2.out, Hblk2.out, hB2⟩
        case measure => simp [intOf]
    · cases back
      · go_wp2_with (at_builtin; refine wpList_append_rd _ _ 36 3 1 8 _ (w.heap.size + 1) elems_ints rfl rfl _ 1 (Ints ((S13.ins false x).take 1)) rfl (Hown.out.alloc _) (some ⟨wr.heap.size, 0, none⟩) 1 1 [.int .i64 (x.i1.tmod 3072)] rfl rfl (Rd.new wr [.int .i64 (x.i1.tmod 3072)] 3) (by simp [Value.oneCell']) (by unfold maxLen; omega) (by omega) (by simp; omega) ?_; intro a2 cap2 w2 hown2 hgrow2; have hB2 : Below w.heap.size w w2 := Below.grown (by go_grown) hgrow2 (by simp; omega) (fun j e => by have := (Hown.out.lt j e).1; omega); have Hblk2 := Lib.hid ((Hblk.out.alloc (Obj.cells #[.int .i64 (x.i1.tmod 3072)] 3)).grown hgrow2 (fun e => by have := (Hown.out.lt _ e.symm).1; omega)); have Hown2 := Lib.hid hown2; clear hown2 hgrow2)
        go_roundw
        case rel => exact ⟨2, a2, cap2, by omega, by go_num, rfl, by simpa [S13.ins, Ints] using Hown2.out, Hblk2.out, hB2⟩
        case measure => simp [intOf]
      · go_wp2_with (at_builtin; refine wpList_append_rd _ _ 36 3 1 8 _ (w.heap.size + 1) elems_ints rfl rfl _ 1 (Ints ((S13.ins true x).take 1)) rfl (Hown.out.alloc _) (some ⟨wr.heap.size, 0, none⟩) 1 1 [.int .i64 (x.i1.tmod 3072)] rfl rfl (Rd.new wr [.int .i64 (x.i1.tmod 3072)] 3) (by simp [Value.oneCell']) (by unfold maxLen; omega) (by omega) (by simp; omega) ?_; intro a2 cap2 w2 hown2 hgrow2; have hB2 : Below w.heap.size w w2 := Below.grown (by go_grown) hgrow2 (by simp; omega) (fun j e => by have := (Hown.out.lt j e).1; omega); have Hblk2 := Lib.hid ((Hblk.out.alloc (Obj.cells #[.int .i64 (x.i1.tmod 3072)] 3)).grown hgrow2 (fun e => by have := (Hown.out.lt _ e.symm).1; omega)); have Hown2 := Lib.hid hown2; clear hown2 hgrow2)
        go_roundw
        case rel => exact ⟨2, a2, cap2, by omega, by go_num, rfl, by simpa [S13.ins, Ints] using Hown2.out, Hblk2.out, hB2⟩
        case measure => simp [intOf]
    · cases back
      · go_wp2_with (at_builtin; refine wpList_append_rd _ _ 36 3 1 8 _ (w.heap.size + 1) elems_ints rfl rfl _ 2 (Ints ((S13.ins false x).take 2)) rfl (Hown.out.alloc _) (some ⟨wr.heap.size, 0, none⟩) 1 1 [.int .i64 (x.i2.tmod 3072)] rfl rfl (Rd.new wr [.int .i64 (x.i2.tmod 3072)] 3) (by simp [Value.oneCell']) (by unfold maxLen; omega) (by omega) (by simp; omega) ?_; intro a2 cap2 w2 hown2 hgrow2; have hB2 : Below w.heap.size w w2 := Below.grown (by go_grown) hgrow2 (by simp; omega) (fun j e => by have := (Hown.out.lt j e).1; omega); have Hblk2 := Lib.hid ((Hblk.out.alloc (Obj.cells #[.int .i64 (x.i2.tmod 3072)] 3)).grown hgrow2 (fun e => by have := (Hown.out.lt _ e.symm).1; omega)); have Hown2 := Lib.hid hown2; clear hown2 hgrow2)
        go_roundw
        case rel => exact ⟨3, a2, cap2, by omega, by go_num, rfl, by simpa [S13.ins, Ints] using Hown2.out, Hblk2.out, hB2⟩
        case measure => simp [intOf]
      · go_wp2_with (at_builtin; refine wpList_append_rd _ _ 36 3 1 8 _ (w.heap.size + 1) elems_ints rfl rfl _ 2 (Ints ((S13.ins true x).take 2)) rfl (Hown.out.alloc _) (some ⟨wr.heap.size, 0, none⟩) 1 1 [.int .i64 (x.i0.tmod 3072)] rfl rfl (Rd.new wr [.int .i64 (x.i0.tmod 3072)] 3) (by simp [Value.oneCell']) (by unfold maxLen; omega) (by omega) (by simp; omega) ?_; intro a2 cap2 w2 hown2 hgrow2; have hB2 : Below w.heap.size w w2 := Below.grown (by go_grown) hgrow2 (by simp; omega) (fun j e => by have := (Hown.out.lt j e).1; omega); have Hblk2 := Lib.hid ((Hblk.out.alloc (Obj.cells #[.int .i64 (x.i0.tmod 3072)] 3)).grown hgrow2 (fun e => by have := (Hown.out.lt _ e.symm).1; omega)); have Hown2 := Lib.hid hown2; clear hown2 hgrow2)
        go_roundw
        case rel => exact ⟨3, a2, cap2, by omega, by go_num, rfl, by simpa [S13.ins, Ints] using Hown2.out, Hblk2.out, hB2⟩
        case measure => simp [intOf]
end Go.Proofs.Ytkpkkbpfcchgaaa
