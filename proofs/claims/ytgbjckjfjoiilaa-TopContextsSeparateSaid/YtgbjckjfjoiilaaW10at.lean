/- The law TopContextsSeparate, walked. No condition. -/
import Derived.Test.YtgbjckjfjoiilaaW10as
import Derived.Test.YtgbjckjfjoiilaaW09g
import Derived.Test.YtgbjckjfjoiilaaBase17
set_option linter.unusedSimpArgs false
set_option linter.unusedVariables false
set_option linter.unusedSectionVars false
namespace Go.Proofs.Ytgbjckjfjoiilaa
open Go.RowKit Go.Maps

theorem Seen.setLow {LB K : Nat} {w : World} {v : Value} {s : Int} (h : Seen LB K w v s) {c : Nat} (hc : c < LB) (i : Nat) (u : Value) : Seen LB K (w.setCell ⟨c, i, none⟩ u) v s := by
  obtain ⟨bs, a, c', h1, h2, h3, h4, h5, h6⟩ := h
  exact ⟨bs, a, c', h1, h2.setApart (fun hne b o e => by have := h6 (fun e' => hne (by rw [e']; rfl)) b o e; omega) i u, h3, h4, h5, h6⟩
theorem MapOK.setLow {LB K n : Nat} {xs : List Int} {w : World} {D : DataW Value} (h : MapOK LB K n xs w D) {c : Nat} (hc : c < LB) (i : Nat) (u : Value) : MapOK LB K n xs (w.setCell ⟨c, i, none⟩ u) D := fun k hk => by
  obtain ⟨ck, ss, h1, h2⟩ := h k hk
  exact ⟨ck, ss, h1, ⟨h2.chk, h2.len, h2.zero, fun j h3 h4 => by obtain ⟨v, e, hs⟩ := h2.seen j h3 h4; exact ⟨v, e, hs.setLow hc i u⟩⟩⟩
theorem drew_below (B : Nat) (w : World) : Below B w w.drew := (Below.refl B w).drew
theorem MapOK.step {LB K n : Nat} {xs : List Int} {w w' : World} {D : DataW Value} (h : MapOK LB K n xs w D) (hb : Below w.heap.size w w') : MapOK LB K n xs w' D := h.keptBy (Below.grownBy hb none) (fun r e => by cases e)

theorem visit10_at (n c m nib : Nat) (zn zc zm zb : Int) (hzn : (n : Int) = zn) (hzc : (c : Int) = zc) (hzm : (m : Int) = zm) (hzb : (nib : Int) = zb) (xs ys : List Int) (hg : Good n xs) (hc : c < 256) (hm : m < 256) (hnib : nib < 256) (hX : S10.visX n xs (c * 16777216 + m) nib = ys) (a : Option Addr) (cap : Nat) (bm nn nn' K K' : Nat) (hnn : nn < 1000) (e1 : nn + 1 = nn') (e2 : 4 * nn = K) (e3 : 4 * (nn + 1) = K') (D : DataW Value) (w : World) (LB : Nat) (hLB : LB ≤ w.heap.size)
    (hT : Tab xs a cap w) (hM : w.ownsMap Try.prog 3 TR bm nn D) (hOK : MapOK LB K n xs w D) :
    Calls Try.prog 14 #[tabV zn xs a cap, .map (some bm), .agg #[.int .u8 zc, .int .u8 zm, .int .u8 zb]] w fun e w' => ∃ a' cap', e = .returned (.tuple #[tabV zn ys a' cap', .bool true]) ∧
      Tab ys a' cap' w' ∧ Fr a' w.heap.size ∧ (∃ D', w'.ownsMap Try.prog 3 TR bm nn' D' ∧ MapOK LB K' n ys w' D') ∧ w.grownBy w' (some bm) := by
  subst hzn hzc hzm hzb hX e1 e2 e3
  exact tryVisit10_any n xs hg c m nib hc hm hnib a cap bm nn hnn D w LB hLB hT hM hOK

/-- A visit of the law's. -/
structure Vis where
  c : Nat
  m : Nat
  b : Nat
def Vis.ok (s : Vis) : Prop := s.c < 256 ∧ s.m < 256 ∧ s.b < 256
def Vis.cells (s : Vis) : List Value := [.int .u8 (s.c : Int), .int .u8 (s.m : Int), .int .u8 (s.b : Int)]
def Viss (l : List Vis) : List Value := (l.map Vis.cells).flatten
theorem Viss_length (l : List Vis) : (Viss l).length = 3 * l.length := by
  induction l with
  | nil => rfl
  | cons x xs ih => simp [Viss, Vis.cells] at *; omega
theorem Viss_at : ∀ (l : List Vis) {i j : Nat} {x : Vis}, l[i]? = some x → j < 3 → (Viss l)[3 * i + j]? = x.cells[j]?
  | [], i, j, x, h, _ => by simp at h
  | y :: l, 0, j, x, h, hj => by
    obtain rfl : y = x := by simpa using h
    show (y.cells ++ Viss l)[3 * 0 + j]? = _
    rw [Nat.mul_zero, Nat.zero_add, List.getElem?_append_left (by simp [Vis.cells]; omega)]
  | y :: l, i + 1, j, x, h, hj => by
    show (y.cells ++ Viss l)[3 * (i + 1) + j]? = _
    rw [List.getElem?_append_right (by simp [Vis.cells]; omega)]
    have e : 3 * (i + 1) + j - y.cells.length = 3 * i + j := by simp [Vis.cells]; omega
    rw [e]
    exact Viss_at l (by simpa using h) hj
def S10.vgo (n : Nat) (xs : List Int) (s : Vis) : List Int := S10.visX n xs (s.c * 16777216 + s.m) s.b
def S10.viss (n : Nat) (l : List Vis) : List Int := l.foldl (S10.vgo n) (List.replicate (16 * 2 ^ n) 0)
theorem S10.viss_snoc (n : Nat) (l : List Vis) (s : Vis) : S10.viss n (l ++ [s]) = S10.vgo n (S10.viss n l) s := by unfold S10.viss; rw [List.foldl_append]; rfl
theorem Good.viss {n : Nat} (hn : n ≤ 16) : ∀ (l : List Vis), (∀ s ∈ l, s.ok) → Good n (S10.viss n l) := by
  have key : ∀ (l : List Vis) (xs : List Int), Good n xs → (∀ s ∈ l, s.ok) → Good n (l.foldl (S10.vgo n) xs) := fun l => by
    induction l with
    | nil => exact fun xs h _ => h
    | cons s l ih =>
      intro xs h hl
      have hs := hl s List.mem_cons_self
      have h1 := hs.1
      have h2 := hs.2.1
      exact ih _ (h.vis (by omega) s.b) (fun t ht => hl t (List.mem_cons_of_mem _ ht))
  exact fun l hl => key l _ (Good.new hn) hl

def tv0 : List Int := List.replicate (16 * 2 ^ 2) 0
def tv1 : List Int := S10.visX 2 tv0 (5 * 16777216 + 3) 9
def tv2 : List Int := S10.visX 2 tv1 (5 * 16777216 + 3) 9
theorem tv_f : S10.findN 2 tv2 83886083 = 3 := by kernel_rfl
theorem tv_g : S10.findB 2 tv2 83886083 = true := by kernel_rfl
def tvS : Int := tv2.getD 49 0
theorem tv_c : S09.hz tvS = 0 ∧ S09.ho tvS = 2 ∧ S09.err tvS = 0 := ⟨by kernel_rfl, by kernel_rfl, by kernel_rfl⟩
theorem tv_good : Good 2 tv0 ∧ Good 2 tv1 ∧ Good 2 tv2 := by
  have h0 : Good 2 tv0 := Good.new (by omega)
  have h1 : Good 2 tv1 := h0.vis (by omega) 9
  exact ⟨h0, h1, h1.vis (by omega) 9⟩



set_option maxRecDepth 100000 in
set_option maxHeartbeats 1000000 in
theorem trySlotsAwake_any (w : World) : Calls Try.prog 12 #[] w fun e w' => e = .returned (.bool true) ∧ Below w.heap.size w w' := by
  have H0 := Lib.hid fun W => (show Calls Try.prog 13 #[.int .i64 2] W _ from new10_ok 2 (by omega) W)
  have H1 := Lib.hid fun a cap bm D W LB h1 h2 h3 h4 => visit10_at 2 5 3 9 2 5 3 9 rfl rfl rfl rfl tv0 tv1 tv_good.1 (by omega) (by omega) (by omega) rfl a cap bm 0 1 0 4 (by omega) rfl rfl rfl D W LB h1 h2 h3 h4
  have H2 := Lib.hid fun a cap bm D W LB h1 h2 h3 h4 => visit10_at 2 5 3 9 2 5 3 9 rfl rfl rfl rfl tv1 tv2 tv_good.2.1 (by omega) (by omega) (by omega) rfl a cap bm 1 2 4 8 (by omega) rfl rfl rfl D W LB h1 h2 h3 h4
  have H3 := Lib.hid fun a cap W h => find10_at 2 tv2 83886083 83886083 rfl (by decide) 3 true tv_f tv_g a cap W h
  have H4 := Lib.hid fun a cap W h => (show Calls Try.prog 27 #[tabV 2 tv2 a cap, .int .i64 3, .int .i64 1] W fun e w' => e = .returned (.tuple #[.int .i64 tvS, .int .i64 0]) ∧ Below W.heap.size W w' by
    have h1 := get10_any 2 tv2 3 1 a cap W h
    have e1 : S10.getN 2 tv2 3 1 = tvS := tv_good.2.2.getN (i := 3) (k := 1) (by decide) (by omega) (by omega)
    have e2 : S10.node 2 tv2 3 1 = 0 := tv_good.2.2.node (i := 3) (k := 1) (by decide) (by omega) (by omega)
    rw [e1, e2] at h1
    exact h1)
  have H5 := Lib.hid fun W => (show Calls Try.prog 38 #[.int .i64 tvS] W fun e w' => e = .returned (.tuple #[.int .i64 0, .int .i64 2, .int .i64 (S09.hl tvS), .int .i64 0]) ∧ Below W.heap.size W w' by
    have h := counts09_any tvS W
    rw [tv_c.1, tv_c.2.1, tv_c.2.2] at h
    exact h)
  have HM0 := Lib.hid fun LB W => MapOK.new LB 0 2 W
  obtain ⟨X0, e0⟩ : ∃ x, List.replicate (16 * 2 ^ 2) (0 : Int) = x := ⟨_, rfl⟩
  have e0' : tv0 = X0 := e0
  obtain ⟨x1, e1⟩ : ∃ x, tv1 = x := ⟨_, rfl⟩
  obtain ⟨x2, e2⟩ : ∃ x, tv2 = x := ⟨_, rfl⟩
  obtain ⟨st, e3⟩ : ∃ x, tvS = x := ⟨_, rfl⟩
  obtain ⟨hl, e4⟩ : ∃ x, S09.hl st = x := ⟨_, rfl⟩
  rw [e0] at H0 HM0
  rw [e0'] at H1
  rw [e1] at H1 H2
  rw [e2] at H2 H3 H4
  rw [e3] at H4 H5
  rw [e4] at H5
  clear e0 e1 e2 e3 e4 e0'
  have hmm := @run_makeMap Try.prog
  unfold tabV at *
  go_enter Try.func12, Try.ntmps12
  go_wp2_with fail
  refine (H0.out _).mono ?_
  rintro e w1 ⟨a1, c1, rfl, hT1, hF1, hb1⟩
  obtain ⟨S, hS⟩ : ∃ S, w1.heap.size = S := ⟨_, rfl⟩
  obtain ⟨w2, hw2⟩ : ∃ w2, (w1.alloc (Obj.cells #[.int .i64 2, .slice a1 X0.length c1] 26)).alloc (.map #[] 0) = w2 := ⟨_, rfl⟩
  have hb2 : Below w1.heap.size w1 w2 := by rw [← hw2]; exact ((Below.refl _ w1).alloc (Nat.le_refl _) _).alloc (by simp) _
  have A2 : Blk w2 S [.int .i64 2, .slice a1 X0.length c1] 26 := by rw [← hw2, ← hS]; exact (Blk.new w1 _ _).alloc _
  have M2 : w2.ownsMap Try.prog 3 TR (S + 1) 0 (.map []) := by
    have h := World.ownsMap_made (w1.alloc (Obj.cells #[.int .i64 2, .slice a1 X0.length c1] 26)) Try.prog 3 TR
    rw [World.size_alloc, hS, hw2] at h
    exact h
  have z2 : w2.heap.size = S + 2 := by rw [← hw2]; simp; omega
  have hB2 := below_trans hb1 hb2
  have T2 := hT1.step hb2
  have zS : w.heap.size ≤ S := by have := hb1.size; omega
  have O2 := HM0.out (S + 2) w2
  have x0 := A2.cell 0
  have x1' := A2.cell 1
  simp only [List.getElem?_cons_zero, List.getElem?_cons_succ] at x0 x1'
  have hbm : S + 1 < w2.heap.size := by omega
  go_wp2_with fail
  refine (H1.out _ _ _ _ _ (S + 2) (by omega) T2 M2 O2).mono ?_
  rintro e w3 ⟨a3, c3, rfl, T3, F3, ⟨D3, M3, O3⟩, g3⟩
  have A3 := A2.keptRow g3 (by simp)
  have y0 := A3.cell 0
  have y1 := A3.cell 1
  have f0 := A3.free 0
  have f1 := A3.free 1
  have B3 := (A3.set 0 (.int .i64 2)).set 1 (.slice a3 x1.length c3)
  have l3 := A3.lt
  have zz3 := g3.size
  have U3 := (T3.other (n := S + 1) (fun b o e => by have := F3 b o e; omega) S 0 (.int .i64 2) (by omega)).other (n := S + 1) (fun b o e => by have := F3 b o e; omega) S 1 (.slice a3 x1.length c3) (by omega)
  have N3 := M3.kept (grown_set2 w3 S 0 1 (.int .i64 2) (.slice a3 x1.length c3)) (by simp)
  have Q3 := (O3.setLow (show S < S + 2 by omega) 0 (.int .i64 2)).setLow (show S < S + 2 by omega) 1 (.slice a3 x1.length c3)
  have hB3 := ((hB2.trans (rowBelow g3 (show w.heap.size ≤ S + 1 by omega) hB2.size)).setCell (p := ⟨S, 0, none⟩) (show w.heap.size ≤ S by omega) (.int .i64 2)).setCell (p := ⟨S, 1, none⟩) (show w.heap.size ≤ S by omega) (.slice a3 x1.length c3)
  simp only [List.set_cons_zero, List.set_cons_succ, List.getElem?_cons_zero, List.getElem?_cons_succ] at y0 y1 B3
  obtain ⟨v3, hv3⟩ : ∃ v, (w3.setCell ⟨S, 0, none⟩ (.int .i64 2)).setCell ⟨S, 1, none⟩ (.slice a3 x1.length c3) = v := ⟨_, rfl⟩
  rw [hv3] at B3 U3 N3 Q3 hB3
  have vz3 : v3.heap.size = w3.heap.size := by rw [← hv3]; simp
  clear A3 T3 M3 O3 x0 x1'
  have u0 := B3.cell 0
  have u1 := B3.cell 1
  simp only [List.getElem?_cons_zero, List.getElem?_cons_succ] at u0 u1
  go_wp2_with fail
  refine (H2.out _ _ _ _ _ (S + 2) (by omega) U3 N3 Q3).mono ?_
  rintro e w4 ⟨a4, c4, rfl, T4, F4, ⟨D4, M4, O4⟩, g4⟩
  clear y0 y1 f0 f1
  have A4 := B3.keptRow g4 (by simp)
  have y0 := A4.cell 0
  have y1 := A4.cell 1
  have f0 := A4.free 0
  have f1 := A4.free 1
  have B4 := (A4.set 0 (.int .i64 2)).set 1 (.slice a4 x2.length c4)
  have l4 := A4.lt
  have zz4 := g4.size
  have U4 := (T4.other (n := S + 1) (fun b o e => by have := F4 b o e; omega) S 0 (.int .i64 2) (by omega)).other (n := S + 1) (fun b o e => by have := F4 b o e; omega) S 1 (.slice a4 x2.length c4) (by omega)
  have N4 := M4.kept (grown_set2 w4 S 0 1 (.int .i64 2) (.slice a4 x2.length c4)) (by simp)
  have Q4 := (O4.setLow (show S < S + 2 by omega) 0 (.int .i64 2)).setLow (show S < S + 2 by omega) 1 (.slice a4 x2.length c4)
  have hB4 := ((hB3.trans (rowBelow g4 (show w.heap.size ≤ S + 1 by omega) hB3.size)).setCell (p := ⟨S, 0, none⟩) (show w.heap.size ≤ S by omega) (.int .i64 2)).setCell (p := ⟨S, 1, none⟩) (show w.heap.size ≤ S by omega) (.slice a4 x2.length c4)
  simp only [List.set_cons_zero, List.set_cons_succ, List.getElem?_cons_zero, List.getElem?_cons_succ] at y0 y1 B4
  obtain ⟨v4, hv4⟩ : ∃ v, (w4.setCell ⟨S, 0, none⟩ (.int .i64 2)).setCell ⟨S, 1, none⟩ (.slice a4 x2.length c4) = v := ⟨_, rfl⟩
  rw [hv4] at B4 U4 N4 Q4 hB4
  have vz4 : v4.heap.size = w4.heap.size := by rw [← hv4]; simp
  clear A4 T4 M4 O4 u0 u1 B3 U3 N3 Q3
  have u0 := B4.cell 0
  have u1 := B4.cell 1
  simp only [List.getElem?_cons_zero, List.getElem?_cons_succ] at u0 u1
  go_wp2_with fail
  refine (H3.out _ _ _ U4).mono ?_
  rintro e w5 ⟨rfl, hb5⟩
  have hB5 := below_trans hB4 hb5
  have B5 := B4.step hb5
  have s0 := B5.cell 0
  have s1 := B5.cell 1
  simp only [List.getElem?_cons_zero, List.getElem?_cons_succ] at s0 s1
  go_wp2_with fail
  refine (H4.out _ _ _ (U4.step hb5)).mono ?_
  rintro e w6 ⟨rfl, hb6⟩
  have hB6 := below_trans hB5 hb6
  go_wp2_with fail
  refine (H5.out _).mono ?_
  rintro e w7 ⟨rfl, hb7⟩
  have hB7 := below_trans hB6 hb7
  go_wp2_with fail
  go_returns
  exact ⟨by first | rfl | exact ret_bool (by simp), hB7⟩

set_option maxRecDepth 100000 in
set_option maxHeartbeats 1000000 in
theorem contextsSeparate_any (b : Nat) (hb : b < 256) (l : List Vis) (hok : ∀ s ∈ l, s.ok) (hlen : l.length ≤ 9223372036854775807) (a : Option Addr) (cap : Nat) (w : World) (hrd : Rd w a (Viss l)) :
    Calls Try.prog 3 #[.int .u8 (b : Int), .slice a l.length cap] w fun e w' => e = .returned (.bool true) ∧ Below w.heap.size w w' := by
  have HA := Lib.hid trySlotsAwake_any
  by_cases hbig : 60 < l.length
  · have d1 : decide (60 < (l.length : Int)) = true := decide_eq_true (by omega)
    go_enter Try.func3, Try.ntmps3
    go_wp2_with fail
    refine (HA.out _).mono ?_
    rintro e w2 ⟨rfl, hb2⟩
    go_wp2_with fail
    go_returns
    exact ⟨rfl, hb2⟩
  have d1 : decide (60 < (l.length : Int)) = false := decide_eq_false (by omega)
  obtain ⟨n, hn⟩ : ∃ n, n = b % 5 := ⟨_, rfl⟩
  have hn5 : n < 5 := by omega
  have en : (b : Int) % 5 = (n : Int) := by omega
  have H0 := Lib.hid fun W => new10_ok n (by omega) W
  have e0 : S10.viss n (l.take 0) = List.replicate (16 * 2 ^ n) 0 := rfl
  have HM0 := Lib.hid fun LB W => MapOK.new LB 0 n W
  obtain ⟨X0, hX0⟩ : ∃ X, List.replicate (16 * 2 ^ n) (0 : Int) = X := ⟨_, rfl⟩
  rw [hX0] at H0 e0 HM0
  have HX0 := Lib.hid e0
  clear hn e0 hX0
  have HG := Lib.hid fun k => Good.viss (n := n) (by omega) (l.take k) (fun s hs => hok s (List.mem_of_mem_take hs))
  have Hsn := Lib.hid fun k (hk : k < l.length) => (show S10.viss n (l.take (k + 1)) = S10.vgo n (S10.viss n (l.take k)) (l[k]'hk) by rw [List.take_succ_eq_append_getElem hk, S10.viss_snoc])
  have Hok := Lib.hid fun k (hk : k < l.length) => hok (l[k]'hk) (List.getElem_mem hk)
  have Hat := Lib.hid fun k (hk : k < l.length) => (show l[k]? = some (l[k]'hk) from List.getElem?_eq_getElem hk)
  have HV := Lib.hid fun X hg (s : Vis) (hs : s.ok) a cap bm nn hnn D W LB h1 h2 h3 h4 => tryVisit10_any n X hg s.c s.m s.b hs.1 hs.2.1 hs.2.2 a cap bm nn hnn D W LB h1 h2 h3 h4
  have hmm := @run_makeMap Try.prog
  have Hrd := Lib.hid hrd
  clear hok hrd
  unfold tabV at *
  go_enter Try.func3, Try.ntmps3
  go_wp2_with fail
  refine (H0.out _).mono ?_
  rintro e w1 ⟨a1, c1, rfl, hT1, hF1, hb1⟩
  obtain ⟨S, hS⟩ : ∃ S, w1.heap.size = S := ⟨_, rfl⟩
  obtain ⟨w2, hw2⟩ : ∃ w2, (w1.alloc (Obj.cells #[.int .i64 (n : Int), .slice a1 X0.length c1] 26)).alloc (.map #[] 0) = w2 := ⟨_, rfl⟩
  have hb2 : Below w1.heap.size w1 w2 := by rw [← hw2]; exact ((Below.refl _ w1).alloc (Nat.le_refl _) _).alloc (by simp) _
  have A2 : Blk w2 S [.int .i64 (n : Int), .slice a1 X0.length c1] 26 := by rw [← hw2, ← hS]; exact (Blk.new w1 _ _).alloc _
  have M2 : w2.ownsMap Try.prog 3 TR (S + 1) 0 (.map []) := by
    have h := World.ownsMap_made (w1.alloc (Obj.cells #[.int .i64 (n : Int), .slice a1 X0.length c1] 26)) Try.prog 3 TR
    rw [World.size_alloc, hS, hw2] at h
    exact h
  have z2 : w2.heap.size = S + 2 := by rw [← hw2]; simp; omega
  have hB2 := below_trans hb1 hb2
  have T2 := hT1.step hb2
  have zS : w.heap.size ≤ S := by have := hb1.size; omega
  have O2 := HM0.out (S + 2) w2
  clear hb2 hb1 hT1 hF1
  go_wp2_with fail
  go_loopw [8, 9] (fun okv t wr => ∃ k : Nat, k ≤ l.length ∧ t = .int .i64 (k : Int) ∧ okv = .bool true ∧
      (∃ X a' c' D, X = S10.viss n (l.take k) ∧ Blk wr S [.int .i64 (n : Int), .slice a' X.length c'] 26 ∧ Tab X a' c' wr ∧
        wr.ownsMap Try.prog 3 TR (S + 1) k D ∧ MapOK (S + 2) (4 * k) n X wr D) ∧ S + 2 ≤ wr.heap.size ∧ Below w.heap.size w wr)
    (fun _ t _ => l.length - (intOf t).toNat)
  case atStart => exact ⟨0, by omega, rfl, rfl, ⟨X0, a1, c1, _, HX0.out.symm, A2, T2, M2, O2⟩, by omega, hB2⟩
  case round =>
    clear A2 T2 M2 O2 hB2 z2 hw2
    obtain ⟨k, hk, rfl, rfl, ⟨X, ar, cr, D, hX, Ar, Tr, Mr, Or⟩, zr, hB⟩ := hrel
    by_cases hlt : k < l.length
    · have hg := HG.out k
      have hsn := Hsn.out k hlt
      have hso := Hok.out k hlt
      have hat := Hat.out k hlt
      rw [← hX] at hg hsn
      obtain ⟨g, o, rfl, hcs⟩ := (Hrd.out.step hB) (fun e => by have h1 := congrArg List.length e; rw [Viss_length] at h1; simp at h1; omega)
      obtain ⟨s, hs⟩ : ∃ s, l[k]'hlt = s := ⟨_, rfl⟩
      rw [hs] at hsn hso hat
      have x0 : wr.cell? ⟨g, o + k * 3, none⟩ = some (.int .u8 (s.c : Int)) := by
        have := hcs (3 * k + 0) _ ((Viss_at l hat (j := 0) (by omega)).trans rfl)
        rw [show o + (3 * k + 0) = o + k * 3 by omega] at this; exact this
      have x1 : wr.cell? ⟨g, o + k * 3 + 1, none⟩ = some (.int .u8 (s.m : Int)) := by
        have := hcs (3 * k + 1) _ ((Viss_at l hat (j := 1) (by omega)).trans rfl)
        rw [show o + (3 * k + 1) = o + k * 3 + 1 by omega] at this; exact this
      have x2 : wr.cell? ⟨g, o + k * 3 + 2, none⟩ = some (.int .u8 (s.b : Int)) := by
        have := hcs (3 * k + 2) _ ((Viss_at l hat (j := 2) (by omega)).trans rfl)
        rw [show o + (3 * k + 2) = o + k * 3 + 2 by omega] at this; exact this
      have R1 := Lib.hid fun h1 h2 h3 => HV.out X hg s hso ar cr (S + 1) k (by omega) D wr.drew (S + 2) zr h1 h2 h3
      have hvg : S10.visX n X (s.c * 16777216 + s.m) s.b = S10.vgo n X s := rfl
      obtain ⟨Z, hZ⟩ : ∃ Z, S10.vgo n X s = Z := ⟨_, rfl⟩
      rw [hvg, hZ] at R1
      rw [hZ] at hsn
      have Hs1 := Lib.hid hsn
      have Hvis := Lib.hid hX
      have a0 := Ar.cell 0
      have a1' := Ar.cell 1
      simp only [List.getElem?_cons_zero, List.getElem?_cons_succ] at a0 a1'
      have hC : HasC [(⟨S, 0, none⟩, .int .i64 (n : Int)), (⟨S, 1, none⟩, .slice ar X.length cr), (⟨g, o + k * 3, none⟩, .int .u8 (s.c : Int)), (⟨g, o + k * 3 + 1, none⟩, .int .u8 (s.m : Int)), (⟨g, o + k * 3 + 2, none⟩, .int .u8 (s.b : Int))] wr := ⟨a0, a1', x0, x1, x2, trivial⟩
      have dk : decide ((k : Int) < (l.length : Int)) = true := decide_eq_true (by omega)
      have hk60 : k < 60 := by omega
      have hgw := block_lt_of_cell x0
      simp only at hgw
      have hSw := Ar.lt
      have hcelM : ∃ ob : Obj, wr.heap[S + 1]? = some ob ∧ ob.isCells = false := by obtain ⟨es, ck, e, _⟩ := Mr; exact ⟨_, e, rfl⟩
      have hgS : ¬ g = S + 1 := fun e => by
        subst e
        obtain ⟨ob, h1, h2⟩ := hcelM
        have h3 := x0
        simp only [World.cell?, h1] at h3
        cases ob <;> simp_all [Obj.isCells]
      clear hX hsn hvg hZ hs hg hso hat hcs
      go_wp2_with fail
      refine wp_region_useq 10 11 1 [(.r, [true]), (.p, [false, true, true, true, true]), (.r, [false, false, false, false, false, true]), (.e, [false, false, false, false, false, false, true]), (.p, [false, false, false, false, false, false, false, true, true, true]), (.l, [false, false, false, false, false, false, false, false, false, false, true])] _ _ (HasC [(⟨S, 0, none⟩, .int .i64 (n : Int)), (⟨S, 1, none⟩, .slice ar X.length cr), (⟨g, o + k * 3, none⟩, .int .u8 (s.c : Int)), (⟨g, o + k * 3 + 1, none⟩, .int .u8 (s.m : Int)), (⟨g, o + k * 3 + 2, none⟩, .int .u8 (s.b : Int))]) (by kernel_rfl) (List.take_append_drop 11 _).symm (by kernel_rfl) (by kernel_rfl) (by kernel_rfl) (by kernel_rfl) (hC) (fun Y Q4 F4 hY hF => ?_)
      simp only [phasedU, List.flatMap_cons, List.flatMap_nil, List.take_succ_cons, List.take_zero, List.drop_succ_cons, List.drop_zero, sel_true, sel_false, sel_nil, List.map_cons, List.map_nil, List.cons_append, List.nil_append, List.append_nil]
      repeat
        first
          | (apply wpSeqU_pure (by first | rfl | (rw [hY]; rfl))
             · intro w2
               go_simp
               with_reducible rfl
             simp only [Act.put, List.setIfInBounds_toArray, List.set_cons_zero, List.set_cons_succ])
          | (apply wpSeqU_read (by first | rfl | (rw [hY]; rfl))
             · intro w2 hS2
               (try simp only [Keeps, Cells] at hS2)
               (try simp only [HasC, Cells] at hS2)
               go_simp
               with_reducible rfl
             simp only [Act.put, List.setIfInBounds_toArray, List.set_cons_zero, List.set_cons_succ])
      apply wpSeqU_call (by first | rfl | (rw [hY]; rfl))
      · go_simp
        with_reducible exact ⟨rfl, rfl⟩
      refine (R1.out (Tr.step (drew_below wr.heap.size wr)) (Mr.kept (Below.grownBy (drew_below wr.heap.size wr) none) (by simp)) (Or.step (drew_below wr.heap.size wr))).mono ?_
      rintro e w3 ⟨a3, c3, rfl, T3, F3, ⟨D3, M3, O3⟩, g3⟩
      have F3 : Fr a3 wr.heap.size := F3
      have g3 : wr.grownBy w3 (some (S + 1)) := below_then (drew_below wr.heap.size wr) g3
      have A3 := Ar.keptRow g3 (by simp)
      have hC3 : HasC [(⟨S, 0, none⟩, .int .i64 (n : Int)), (⟨S, 1, none⟩, .slice ar X.length cr), (⟨g, o + k * 3, none⟩, .int .u8 (s.c : Int)), (⟨g, o + k * 3 + 1, none⟩, .int .u8 (s.m : Int)), (⟨g, o + k * 3 + 2, none⟩, .int .u8 (s.b : Int))] w3 :=
        ⟨A3.cell 0, A3.cell 1, g3.cell x0 (by simp; omega), g3.cell x1 (by simp; omega), g3.cell x2 (by simp; omega), trivial⟩
      refine ⟨_, rfl, hC3, ?_⟩
      simp only [Act.put, List.setIfInBounds_toArray, List.set_cons_zero, List.set_cons_succ]
      repeat
        first
          | (apply wpSeqU_pure (by first | rfl | (rw [hY]; rfl))
             · intro w2
               go_simp
               with_reducible rfl
             simp only [Act.put, List.setIfInBounds_toArray, List.set_cons_zero, List.set_cons_succ])
          | (apply wpSeqU_read (by first | rfl | (rw [hY]; rfl))
             · intro w2 hS2
               (try simp only [Keeps, Cells] at hS2)
               (try simp only [HasC, Cells] at hS2)
               go_simp
               with_reducible rfl
             simp only [Act.put, List.setIfInBounds_toArray, List.set_cons_zero, List.set_cons_succ])
      have hB2 := hB
      clear A3
      have A3 := Ar.keptRow g3 (by simp)
      have y0 := A3.cell 0
      have y1 := A3.cell 1
      have f0 := A3.free 0
      have f1 := A3.free 1
      have B3 := (A3.set 0 (.int .i64 (n : Int))).set 1 (.slice a3 Z.length c3)
      have l3 := A3.lt
      have zz3 := g3.size
      have U3 := (T3.other (n := S + 1) (fun b o e => by have := F3 b o e; omega) S 0 (.int .i64 (n : Int)) (by omega)).other (n := S + 1) (fun b o e => by have := F3 b o e; omega) S 1 (.slice a3 Z.length c3) (by omega)
      have N3 := M3.kept (grown_set2 w3 S 0 1 (.int .i64 (n : Int)) (.slice a3 Z.length c3)) (by simp)
      have Q3 := (O3.setLow (show S < S + 2 by omega) 0 (.int .i64 (n : Int))).setLow (show S < S + 2 by omega) 1 (.slice a3 Z.length c3)
      have hB3 := ((hB2.trans (rowBelow g3 (show w.heap.size ≤ S + 1 by omega) hB2.size)).setCell (p := ⟨S, 0, none⟩) (show w.heap.size ≤ S by omega) (.int .i64 (n : Int))).setCell (p := ⟨S, 1, none⟩) (show w.heap.size ≤ S by omega) (.slice a3 Z.length c3)
      simp only [List.set_cons_zero, List.set_cons_succ, List.getElem?_cons_zero, List.getElem?_cons_succ] at y0 y1 B3
      obtain ⟨v3, hv3⟩ : ∃ v, (w3.setCell ⟨S, 0, none⟩ (.int .i64 (n : Int))).setCell ⟨S, 1, none⟩ (.slice a3 Z.length c3) = v := ⟨_, rfl⟩
      rw [hv3] at B3 U3 N3 Q3 hB3
      have vz3 : v3.heap.size = w3.heap.size := by rw [← hv3]; simp
      refine wpSeqU_last_store (by first | rfl | (rw [hY]; rfl)) (by go_simp; first | with_reducible exact ⟨rfl, rfl⟩ | with_reducible rfl) ?_
      simp only [Act.put, List.setIfInBounds_toArray, List.set_cons_zero, List.set_cons_succ]
      refine wpSeqU_done (hF.out _ _ (fun K hK => ?_))
      clear hF hY
      go_wp2_with fail
      refine OnlyK.mk (hK.out _ _ ?_)
      clear hK
      have hsz : S + 2 ≤ v3.heap.size := by omega
      have HR2 := Lib.hid (show ∃ X a' c' D, X = S10.viss n (l.take (k + 1)) ∧ Blk v3 S [.int .i64 (n : Int), .slice a' X.length c'] 26 ∧ Tab X a' c' v3 ∧
        v3.ownsMap Try.prog 3 TR (S + 1) (k + 1) D ∧ MapOK (S + 2) (4 * (k + 1)) n X v3 D from ⟨Z, a3, c3, D3, Hs1.out.symm, B3, U3, N3, Q3⟩)
      clear hC hC3 B3 U3 N3 Q3 T3 M3 O3 A3 hv3
      go_wp2_with fail
      go_roundw
      case rel => exact ⟨k + 1, by omega, by go_num, rfl, HR2.out, hsz, hB3⟩
      case measure => simp [intOf] <;> omega
    · have dk : decide ((k : Int) < (l.length : Int)) = false := decide_eq_false (by omega)
      go_wp2_with fail
      refine (HA.out _).mono ?_
      rintro e w2 ⟨rfl, hb2⟩
      have hB2 := below_trans hB hb2
      go_wp2_with fail
      go_returns
      exact ⟨rfl, hB2⟩
end Go.Proofs.Ytgbjckjfjoiilaa
