/- A step of learning, and a row that learns (layer 13). No condition. -/
import Derived.Test.YtkpkkbpfcchgaaaW13n
set_option linter.unusedSimpArgs false
set_option linter.unusedVariables false
set_option linter.unusedSectionVars false
namespace Go.Proofs.Ytkpkkbpfcchgaaa
open Go.RowKit

/-- A weight that has learned. -/
def S13.lw (d rate w x : Int) : Int := max (-1048576) (min (w + S06.round (x * d * rate) 16384) 1048576)
def S13.learnRow (d rate : Int) : List Int → List Int → List Int
  | w :: ws, x :: xs => S13.lw d rate w x :: S13.learnRow d rate ws xs
  | ws, _ => ws
theorem S13.learnRow_length (d rate : Int) : ∀ ws xs : List Int, (S13.learnRow d rate ws xs).length = ws.length
  | [], _ => by simp [S13.learnRow]
  | _ :: _, [] => by simp [S13.learnRow]
  | w :: ws, x :: xs => by simp [S13.learnRow, S13.learnRow_length d rate ws xs]
theorem S13.learnRow_at (d rate : Int) : ∀ (ws xs : List Int) (k : Nat), k < ws.length → ws.length = xs.length → (S13.learnRow d rate ws xs)[k]? = some (S13.lw d rate (ws.getD k 0) (xs.getD k 0))
  | w :: ws, x :: xs, 0, _, _ => by simp [S13.learnRow]
  | w :: ws, x :: xs, k + 1, h, hl => by
    simp only [S13.learnRow, List.getElem?_cons_succ, List.getD_cons_succ]
    exact S13.learnRow_at d rate ws xs k (by simpa using h) (by simpa using hl)
/-- What a row holds when k weights have learned. -/
def S13.upd (d rate : Int) (ws xs : List Int) (k : Nat) : List Int := (S13.learnRow d rate ws xs).take k ++ ws.drop k
theorem S13.upd_zero (d rate : Int) (ws xs : List Int) : S13.upd d rate ws xs 0 = ws := by simp [S13.upd]
theorem S13.upd_all (d rate : Int) (ws xs : List Int) : S13.upd d rate ws xs ws.length = S13.learnRow d rate ws xs := by
  unfold S13.upd
  rw [List.drop_length, List.append_nil, List.take_of_length_le (by rw [S13.learnRow_length]; exact Nat.le_refl _)]
theorem S13.upd_length (d rate : Int) (ws xs : List Int) {k : Nat} (hk : k ≤ ws.length) : (S13.upd d rate ws xs k).length = ws.length := by
  unfold S13.upd
  rw [List.length_append, List.length_take, List.length_drop, S13.learnRow_length]; omega
theorem S13.upd_at (d rate : Int) (ws xs : List Int) {k : Nat} (hk : k < ws.length) : (S13.upd d rate ws xs k)[k]? = some (ws.getD k 0) := by
  unfold S13.upd
  rw [List.getElem?_append_right (by rw [List.length_take, S13.learnRow_length]; omega), List.length_take, S13.learnRow_length, Nat.min_eq_left (by omega), Nat.sub_self, List.getElem?_drop, Nat.add_zero, List.getD_eq_getElem?_getD, List.getElem?_eq_getElem hk]
  rfl
theorem S13.upd_succ (d rate : Int) (ws xs : List Int) {k : Nat} (hk : k < ws.length) (hl : ws.length = xs.length) :
    (S13.upd d rate ws xs k).set k (S13.lw d rate (ws.getD k 0) (xs.getD k 0)) = S13.upd d rate ws xs (k + 1) := by
  apply List.ext_getElem?
  intro i
  have hat := S13.learnRow_at d rate ws xs k hk hl
  rw [List.getElem?_set]
  unfold S13.upd
  by_cases h1 : k = i
  · subst h1
    have hlen := S13.upd_length d rate ws xs (Nat.le_of_lt hk)
    unfold S13.upd at hlen
    rw [if_pos rfl, if_pos (by rw [hlen]; exact hk), List.getElem?_append_left (by rw [List.length_take, S13.learnRow_length]; omega), List.getElem?_take, if_pos (by omega), hat]
  · rw [if_neg h1]
    rcases Nat.lt_or_gt_of_ne h1 with h2 | h2
    · rw [List.getElem?_append_right (by rw [List.length_take, S13.learnRow_length]; omega), List.getElem?_append_right (by rw [List.length_take, S13.learnRow_length]; omega), List.length_take, List.length_take, S13.learnRow_length,
        Nat.min_eq_left (by omega), Nat.min_eq_left (by omega), List.getElem?_drop, List.getElem?_drop, show k + (i - k) = i by omega, show k + 1 + (i - (k + 1)) = i by omega]
    · rw [List.getElem?_append_left (by rw [List.length_take, S13.learnRow_length]; omega), List.getElem?_append_left (by rw [List.length_take, S13.learnRow_length]; omega), List.getElem?_take, List.getElem?_take, if_pos h2, if_pos (by omega)]
theorem S13.prod_abs {x d rate : Int} (hx : -3071 ≤ x ∧ x ≤ 3071) (hd : -4096 ≤ d ∧ d ≤ 4096) (hr : 0 ≤ rate ∧ rate ≤ 255) : (-12578816 ≤ x * d ∧ x * d ≤ 12578816) ∧ -3207598080 ≤ x * d * rate ∧ x * d * rate ≤ 3207598080 := by
  have h1 := S13.mul_abs (A := 3071) (B := 4096) hx.1 hx.2 hd.1 hd.2
  have h2 := S13.mul_abs (a := x * d) (b := rate) (A := 12578816) (B := 255) (by omega) (by omega) (by omega) (by omega)
  exact ⟨⟨by omega, by omega⟩, by omega, by omega⟩

set_option maxHeartbeats 1000000 in
theorem learnStep13_any (i n cap : Nat) (wt x d rate : Int) (bd br bw b : Nat) (cs : List Value) (w : World) (hi : i < n) (hn : n ≤ 16) (hnc : n ≤ cs.length) (hx : -3071 ≤ x ∧ x ≤ 3071) (hd : -4096 ≤ d ∧ d ≤ 4096) (hr : 0 ≤ rate ∧ rate ≤ 255) (hwt : -1048576 ≤ wt ∧ wt ≤ 1048576)
    (kd : Blk w bd [.int .i64 d] 3) (kr : Blk w br [.int .i64 rate] 3) (kw : Blk w bw [.slice (some ⟨b, 0, none⟩) n cap] 36) (kb : Blk w b cs 3) :
    Calls Try.prog 34 #[.int .i64 i, .int .i64 wt, .int .i64 x, .pointer (some ⟨bd, 0, none⟩), .pointer (some ⟨br, 0, none⟩), .pointer (some ⟨bw, 0, none⟩)] w fun e w' =>
      e = .returned (.tuple #[]) ∧ ∃ w1, Below w.heap.size w w1 ∧ w' = w1.setCell ⟨b, i, none⟩ (.int .i64 (S13.lw d rate wt x)) := by
  obtain ⟨⟨p1, p2⟩, p3, p4⟩ := S13.prod_abs hx hd hr
  have hrb := S06.round_abs (n := x * d * rate) (d := 16384) (B := 3207598080) (by omega) (by omega) (by omega)
  have HR := Lib.hid fun W => round06_any (x * d * rate) 16384 W (by omega) (by omega) (by omega) (by omega)
  have Hlw := Lib.hid (show S13.lw d rate wt x = max (-1048576) (min (wt + S06.round (x * d * rate) 16384) 1048576) from rfl)
  have e1 : IntKind.i64.wrap (x * d) = x * d := IntWalk.i64_in _ (by omega)
  have e2 : IntKind.i64.wrap (x * d * rate) = x * d * rate := IntWalk.i64_in _ (by omega)
  have e3 : IntKind.i64.wrap (wt + S06.round (x * d * rate) 16384) = wt + S06.round (x * d * rate) 16384 := IntWalk.i64_in _ (by omega)
  generalize S06.round (x * d * rate) 16384 = q at *
  have c1 := kd.cell 0
  have c2 := kr.cell 0
  have c3 := kw.cell 0
  simp only [List.getElem?_cons_zero] at c1 c2 c3
  have i1 : (i : Int) < n := by omega
  have i2 : (0 : Int) ≤ (i : Int) := by omega
  have Kb := Lib.hid kb
  have hbl := kb.lt
  have hci : ∃ u, cs[i]? = some u := ⟨_, List.getElem?_eq_getElem (show i < cs.length by omega)⟩
  obtain ⟨u, hu⟩ := hci
  have Hu := Lib.hid hu
  clear kd kr kw kb hu
  go_enter Try.func34, Try.ntmps34
  refine wp_region_steady 12 2 _ _ (Keeps w [(⟨bd, 0, none⟩, .int .i64 d), (⟨br, 0, none⟩, .int .i64 rate), (⟨bw, 0, none⟩, .slice (some ⟨b, 0, none⟩) n cap)]) (by kernel_rfl) (List.take_append_drop 12 _).symm rfl rfl (by kernel_rfl) (Keeps.start (by simp only [Cells]; exact ⟨c1, c2, c3, trivial⟩)) (fun Y F hY hF => ?_)
  simp only [List.take_succ_cons, List.take_zero, List.drop_succ_cons, List.drop_zero]
  repeat
    apply wpSteady_value (by first | rfl | (rw [hY]; rfl))
    · intro w2 ⟨hB2, hk2⟩
      simp only [Cells] at hk2
      go_simp
      with_reducible rfl
    simp only [Act.put, List.setIfInBounds_toArray, List.set_cons_zero, List.set_cons_succ]
  apply wpSteady_call (by first | rfl | (rw [hY]; rfl))
  · intro w2 ⟨hB2, hk2⟩
    simp only [Cells] at hk2
    go_simp
    with_reducible exact ⟨rfl, rfl⟩
  · intro w2 hS2
    have hk2 := hS2.2
    simp only [Cells] at hk2
    refine (HR.out _).mono ?_
    rintro e w3 ⟨rfl, hb3⟩
    exact ⟨rfl, hS2.step hb3⟩
  simp only [Act.put, List.setIfInBounds_toArray, List.set_cons_zero, List.set_cons_succ]
  repeat
    apply wpSteady_value (by first | rfl | (rw [hY]; rfl))
    · intro w2 ⟨hB2, hk2⟩
      simp only [Cells] at hk2
      go_simp
      with_reducible rfl
    simp only [Act.put, List.setIfInBounds_toArray, List.set_cons_zero, List.set_cons_succ]
  refine hF.out _ (fun K w' hK hS' => ?_)
  have hB' := hS'.1
  have hf' : w'.frozen? ⟨b, i, none⟩ = false := by rw [hB'.frozen (p := ⟨b, i, none⟩) hbl]; exact Kb.out.free i
  have hcu : w'.cell? ⟨b, i, none⟩ = some u := by rw [hB'.cell (p := ⟨b, i, none⟩) hbl, Kb.out.cell]; exact Hu.out
  clear hF hY hS'
  go_wp2_with fail
  refine OnlyK.mk (hK.out _ _ ?_)
  go_wp2
  go_returns
  exact ⟨rfl, w', hB', by rw [Hlw.out]⟩
end Go.Proofs.Ytkpkkbpfcchgaaa
