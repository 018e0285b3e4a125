/- What Set (layer 10) returns. What Set (layer 10) returns where it succeeds. What Set (layer 10) returns, for all arguments; the key of a slot. No condition. -/
import Derived.Test.YtgbjckjfjoiilaaW10k
set_option linter.unusedSimpArgs false
set_option linter.unusedVariables false
set_option linter.unusedSectionVars false
namespace Go.Proofs.Ytgbjckjfjoiilaa
open Go.RowKit

/-- A table that was handed back: none, or one whose bytes are the call's own. -/
def TO (w : World) (base : Nat) (bits : Int) (xs : List Int) (V : Value) : Prop :=
  (bits = 0 ∧ xs = [] ∧ V = .agg #[.int .i64 0, .slice none 0 0]) ∨ ∃ b cap, V = tabV bits xs (some ⟨b, 0, none⟩) cap ∧ OB w base b cap xs
theorem TO.nil (w : World) (base : Nat) : TO w base 0 [] (.agg #[.int .i64 0, .slice none 0 0]) := .inl ⟨rfl, rfl, rfl⟩
theorem TO.step {w w' : World} {base : Nat} {bits : Int} {xs : List Int} {V : Value} (h : TO w base bits xs V) (hb : Below w.heap.size w w') : TO w' base bits xs V := by
  rcases h with h | ⟨b, cap, h1, h2⟩
  · exact .inl h
  · exact .inr ⟨b, cap, h1, h2.step hb⟩

def S10.setE (bits : Int) (xs : List Int) (n k st : Int) : Int := if S10.node bits xs n k = 0 then (if 0 ≤ st ∧ st ≤ 214 then 0 else 1) else S10.node bits xs n k
def S10.setB (bits : Int) (xs : List Int) (n k st : Int) : Int := if S10.setE bits xs n k st = 0 then bits else 0
def S10.setX (bits : Int) (xs : List Int) (n k st : Int) : List Int := if S10.setE bits xs n k st = 0 then xs.set (16 * n.toNat + k.toNat) st else []

set_option maxHeartbeats 2000000 in
theorem set10_bad (bits : Int) (xs : List Int) (n k st : Int) (a : Option Addr) (cap : Nat) (w : World) (hT : Tab xs a cap w) (hc : ¬ S10.setE bits xs n k st = 0) :
    Calls Try.prog 25 #[tabV bits xs a cap, .int .i64 n, .int .i64 k, .int .i64 st] w fun e w' => e = .returned (.tuple #[.agg #[.int .i64 0, .slice none 0 0], .int .i64 (S10.setE bits xs n k st)]) ∧ Below w.heap.size w w' := by
  have HN := Lib.hid fun W (h : Tab xs a cap W) => node10_any bits xs n k a cap W h
  unfold tabV at *
  by_cases h0 : S10.node bits xs n k = 0
  · have e1 : S10.setE bits xs n k st = if 0 ≤ st ∧ st ≤ 214 then 0 else 1 := if_pos h0
    have hst : ¬ (0 ≤ st ∧ st ≤ 214) := fun h => hc (by rw [e1, if_pos h])
    rw [e1, if_neg hst]
    rw [h0] at HN
    have W1 := Lib.hid fun W => within10_any st 0 214 W
    rw [decide_eq_false hst] at W1
    clear hst e1 h0 hc
    go_enter Try.func25, Try.ntmps25
    go_wp2_with fail
    refine (HN.out _ (hT.step (by go_grown))).mono ?_
    rintro e w1 ⟨rfl, hb1⟩
    have hB1 : Below w.heap.size w w1 := below_trans (by go_grown) hb1
    have z1 : w.heap.size ≤ w1.heap.size := hB1.size
    have hc2 : Blk w1 (w.heap.size + 1) [.int .i64 0, .slice none 0 0] 26 := by
      have h := (Blk.new (w.alloc (.cells #[.int .i64 bits, .slice a xs.length cap] 26)) [.int .i64 0, .slice none 0 0] 26).step hb1
      rwa [World.size_alloc] at h
    go_wp2_with fail
    refine (count09_any _).mono ?_
    rintro e w2 ⟨rfl, hb2⟩
    have hB2 : Below w.heap.size w w2 := below_trans (by go_grown) hb2
    have z2 : w.heap.size ≤ w2.heap.size := hB2.size
    go_wp2_with fail
    refine (W1.out _).mono ?_
    rintro e w3 ⟨rfl, hb3⟩
    have hB3 : Below w.heap.size w w3 := below_trans (by go_grown) hb3
    have z3 : w.heap.size ≤ w3.heap.size := hB3.size
    have hc3 := (hc2.step hb2).step hb3
    have r0 := hc3.cell 0
    have r1 := hc3.cell 1
    have f0 := hc3.free 0
    have f1 := hc3.free 1
    have g := (hc3.set 0 (.int .i64 0)).set 1 (.slice none 0 0)
    have g0 := g.cell 0
    have g1 := g.cell 1
    simp only [List.set_cons_zero, List.set_cons_succ, List.getElem?_cons_zero, List.getElem?_cons_succ] at g0 g1 r0 r1
    clear hc2 hc3 g
    go_wp2
    exact bodyPost_ret (v := .tuple #[.agg #[.int .i64 0, .slice none 0 0], .int .i64 1]) (by simp [results, Try.results25, go_sem, g0, g1]) rfl ⟨rfl, (hB3.setCell (p := ⟨w.heap.size + 1, 0, none⟩) (by simp) _).setCell (p := ⟨w.heap.size + 1, 1, none⟩) (by simp) _⟩
  · have e1 : S10.setE bits xs n k st = S10.node bits xs n k := if_neg h0
    rw [e1]
    have hc' : (S10.node bits xs n k != 0) = true := by simpa using h0
    generalize S10.node bits xs n k = C at *
    clear hc e1 h0
    go_enter Try.func25, Try.ntmps25
    go_wp2_with fail
    refine (HN.out _ (hT.step (by go_grown))).mono ?_
    rintro e w1 ⟨rfl, hb1⟩
    have hB1 : Below w.heap.size w w1 := below_trans (by go_grown) hb1
    have z1 : w.heap.size ≤ w1.heap.size := hB1.size
    have hc2 : Blk w1 (w.heap.size + 1) [.int .i64 0, .slice none 0 0] 26 := by
      have h := (Blk.new (w.alloc (.cells #[.int .i64 bits, .slice a xs.length cap] 26)) [.int .i64 0, .slice none 0 0] 26).step hb1
      rwa [World.size_alloc] at h
    have r0 := hc2.cell 0
    have r1 := hc2.cell 1
    have f0 := hc2.free 0
    have f1 := hc2.free 1
    have g := (hc2.set 0 (.int .i64 0)).set 1 (.slice none 0 0)
    have g0 := g.cell 0
    have g1 := g.cell 1
    simp only [List.set_cons_zero, List.set_cons_succ, List.getElem?_cons_zero, List.getElem?_cons_succ] at g0 g1 r0 r1
    clear hc2 g
    go_wp2
    exact bodyPost_ret (v := .tuple #[.agg #[.int .i64 0, .slice none 0 0], .int .i64 C]) (by simp [results, Try.results25, go_sem, g0, g1]) rfl ⟨rfl, (hB1.setCell (p := ⟨w.heap.size + 1, 0, none⟩) (by simp) _).setCell (p := ⟨w.heap.size + 1, 1, none⟩) (by simp) _⟩
end Go.Proofs.Ytgbjckjfjoiilaa

namespace Go.Proofs.Ytgbjckjfjoiilaa
open Go.RowKit

set_option maxHeartbeats 2000000 in
theorem set10_ok (m n k : Nat) (xs : List Int) (st : Int) (hm : m ≤ 16) (hl : xs.length = 16 * 2 ^ m) (hn : n < 2 ^ m) (hk : k ≤ 15) (hst : 0 ≤ st ∧ st ≤ 214) (a : Option Addr) (cap : Nat) (w : World) (hT : Tab xs a cap w)
    (hN : S10.node (m : Int) xs (n : Int) (k : Int) = 0) :
    Calls Try.prog 25 #[tabV (m : Int) xs a cap, .int .i64 (n : Int), .int .i64 (k : Int), .int .i64 st] w fun e w' => ∃ b cap', e = .returned (.tuple #[tabV (m : Int) xs (some ⟨b, 0, none⟩) cap', .int .i64 0]) ∧ OB w' w.heap.size b cap' (xs.set (16 * n + k) st) ∧ Below w.heap.size w w' := by
  have HN := Lib.hid fun W (h : Tab xs a cap W) => node10_any (m : Int) xs (n : Int) (k : Int) a cap W h
  rw [hN] at HN
  have hps := pow_small hm
  have HC := Lib.hid fun W (h : Rd W a (Bts xs)) => clone10_any (m : Int) xs a cap W (by omega) (by omega) h
  have HS := Lib.hid fun (b cap' : Nat) (h : xs.length ≤ cap') V => slot10_any (m : Int) b 0 n (2 ^ m) cap' hn hps (by omega) V
  rw [← hl] at HS
  have W1 := Lib.hid fun W => within10_any st 0 214 W
  rw [decide_eq_true hst] at W1
  have hin : 16 * n + k < xs.length := by omega
  have Hin := Lib.hid hin
  have est : st % 256 = st := by omega
  unfold tabV at *
  clear hN hl hps hin hn
  go_enter Try.func25, Try.ntmps25
  go_wp2_with fail
  refine (HN.out _ (hT.step (by go_grown))).mono ?_
  rintro e w1 ⟨rfl, hb1⟩
  have hB1 : Below w.heap.size w w1 := below_trans (by go_grown) hb1
  have z1 : w.heap.size ≤ w1.heap.size := hB1.size
  have hc1 : Blk w1 w.heap.size [.int .i64 (m : Int), .slice a xs.length cap] 26 := ((Blk.new w _ _).alloc _).step hb1
  have hc2 : Blk w1 (w.heap.size + 1) [.int .i64 0, .slice none 0 0] 26 := by
    have h := (Blk.new (w.alloc (.cells #[.int .i64 (m : Int), .slice a xs.length cap] 26)) [.int .i64 0, .slice none 0 0] 26).step hb1
    rwa [World.size_alloc] at h
  go_wp2_with fail
  refine (count09_any _).mono ?_
  rintro e w2 ⟨rfl, hb2⟩
  have hB2 : Below w.heap.size w w2 := below_trans (by go_grown) hb2
  have z2 : w.heap.size ≤ w2.heap.size := hB2.size
  go_wp2_with fail
  refine (W1.out _).mono ?_
  rintro e w3 ⟨rfl, hb3⟩
  have hB3 : Below w.heap.size w w3 := below_trans (by go_grown) hb3
  have z3 : w.heap.size ≤ w3.heap.size := hB3.size
  have hd1 := (hc1.step hb2).step hb3
  have hd2 := (hc2.step hb2).step hb3
  have k1 := hd1.cell 0
  have k2 := hd1.cell 1
  simp only [List.getElem?_cons_zero, List.getElem?_cons_succ] at k1 k2
  go_wp2_with fail
  refine (HC.out _ (hT.rd.step hB3)).mono ?_
  rintro e w4 ⟨b, cap', rfl, ho4, hb4⟩
  have hB4 := below_trans hB3 hb4
  have he2 := hd2.step hb4
  have l2 := hd2.lt
  have z4 : w3.heap.size ≤ b := ho4.1
  have l4 := ho4.lt
  have hcap4 : xs.length ≤ cap' := ho4.2.1
  go_wp2_with fail
  refine (HS.out b cap' hcap4 _).mono ?_
  rintro e w5 ⟨rfl, hb5⟩
  have hb5' : Below w4.heap.size w4 w5 := below_trans ((Below.refl _ w4).alloc (Nat.le_refl _) _) hb5
  have hB5 := below_trans hB4 hb5'
  have ho5 := ho4.step hb5'
  have hv5 : Blk w5 w4.heap.size [.int .i64 (m : Int), .slice (some ⟨b, 0, none⟩) xs.length cap'] 26 := (Blk.new w4 _ _).step hb5
  have hf2 := he2.step hb5'
  have q0 := hv5.cell 0
  have q1 := hv5.cell 1
  have r0 := hf2.cell 0
  have r1 := hf2.cell 1
  have f0 := hf2.free 0
  have f1 := hf2.free 1
  have p0 : w5.cell? ⟨b, 0 + 16 * n + k, none⟩ = some (.int .u8 (xs.getD (16 * n + k) 0)) := by rw [Nat.zero_add]; exact ho5.at Hin.out
  have p1 : w5.frozen? ⟨b, 0 + 16 * n + k, none⟩ = false := ho5.free _
  simp only [List.getElem?_cons_zero, List.getElem?_cons_succ] at q0 q1 r0 r1
  have ho6 := ((((ho5.set (16 * n + k) st).mono (base' := w.heap.size) (by have := hB3.size; omega)).other (w.heap.size + 1) 0 (.int .i64 (m : Int)) (by omega)).other (w.heap.size + 1) 1 (.slice (some ⟨b, 0, none⟩) xs.length cap') (by omega))
  have Ho6 := Lib.hid ho6
  have hg := ((hf2.other b (16 * n + k) (.int .u8 st) (by omega)).set 0 (.int .i64 (m : Int))).set 1 (.slice (some ⟨b, 0, none⟩) xs.length cap')
  have g0 := hg.cell 0
  have g1 := hg.cell 1
  simp only [List.set_cons_zero, List.set_cons_succ, List.getElem?_cons_zero, List.getElem?_cons_succ] at g0 g1
  clear ho4 ho5 ho6 hg hf2 he2 hc1 hc2 hd1 hd2
  rw [Nat.zero_add] at *
  go_wp2
  have hb3' := hB3.size
  refine bodyPost_ret (v := .tuple #[.agg #[.int .i64 (m : Int), .slice (some ⟨b, 0, none⟩) xs.length cap'], .int .i64 0]) (by simp [results, Try.results25, go_sem, g0, g1]) rfl ⟨b, cap', rfl, Ho6.out, ?_⟩
  exact ((hB5.setCell (p := ⟨b, 16 * n + k, none⟩) (by show w.heap.size ≤ b; omega) _).setCell (p := ⟨w.heap.size + 1, 0, none⟩) (by simp) _).setCell (p := ⟨w.heap.size + 1, 1, none⟩) (by simp) _
end Go.Proofs.Ytgbjckjfjoiilaa

namespace Go.Proofs.Ytgbjckjfjoiilaa
open Go.RowKit

theorem set10_any (bits : Int) (xs : List Int) (n k st : Int) (a : Option Addr) (cap : Nat) (w : World) (hT : Tab xs a cap w) :
    Calls Try.prog 25 #[tabV bits xs a cap, .int .i64 n, .int .i64 k, .int .i64 st] w fun e w' => ∃ V, e = .returned (.tuple #[V, .int .i64 (S10.setE bits xs n k st)]) ∧ TO w' w.heap.size (S10.setB bits xs n k st) (S10.setX bits xs n k st) V ∧ Below w.heap.size w w' := by
  by_cases hc : S10.setE bits xs n k st = 0
  · have h0 : S10.node bits xs n k = 0 := by
      unfold S10.setE at hc
      split at hc
      · assumption
      · exact hc
    have hst : 0 ≤ st ∧ st ≤ 214 := by
      unfold S10.setE at hc
      rw [if_pos h0] at hc
      split at hc
      · assumption
      · cases hc
    have e1 : S10.setB bits xs n k st = bits := if_pos hc
    have e2 : S10.setX bits xs n k st = xs.set (16 * n.toNat + k.toNat) st := if_pos hc
    rw [hc, e1, e2]
    obtain ⟨h1, h2⟩ := S10.node_zero h0
    obtain ⟨m, rfl, hm, hl, hz2⟩ := S10.correct h1
    obtain ⟨n', k', rfl, rfl, hn, hk1, hk2⟩ := S10.exists_at h2
    refine (set10_ok m n' k' xs st hm hl hn hk2 hst a cap w hT h0).mono ?_
    rintro e w' ⟨b, cap', rfl, ho, hb⟩
    refine ⟨_, rfl, .inr ⟨b, cap', ?_, ho⟩, hb⟩
    unfold tabV
    rw [List.length_set]
  · have e1 : S10.setB bits xs n k st = 0 := if_neg hc
    have e2 : S10.setX bits xs n k st = [] := if_neg hc
    rw [e1, e2]
    refine (set10_bad bits xs n k st a cap w hT hc).mono ?_
    rintro e w' ⟨rfl, hb⟩
    exact ⟨_, rfl, TO.nil _ _, hb⟩

/-- The priority of slot k. -/
def S10.prio (xs : List Int) (k : Nat) : Int := if S09.found (xs.getD (16 * k + 1) 0) then S09.hz (xs.getD (16 * k + 1) 0) + S09.ho (xs.getD (16 * k + 1) 0) else -1

set_option maxHeartbeats 1000000 in
theorem key10_any (bits : Int) (xs : List Int) (m k b off cap : Nat) (hm : m ≤ 65536) (hl : xs.length = 16 * m) (hk : k < m) (hcap : xs.length ≤ cap) (hok : ∀ x ∈ xs, 0 ≤ x ∧ x < 256) (B : Nat) (w : World) (hcs : w.rangeAt b off (Bts xs))
    (h1 : w.cell? ⟨B, 0, none⟩ = some (.int .i64 bits)) (h2 : w.cell? ⟨B, 1, none⟩ = some (.slice (some ⟨b, off, none⟩) xs.length cap)) :
    Calls Try.prog 52 #[.int .i64 (k : Int), .pointer (some ⟨B, 0, none⟩)] w fun e w' => e = .returned (.int .i64 (S10.prio xs k)) ∧ Below w.heap.size w w' := by
  have HS := Lib.hid fun V => slot10_any bits b off k m cap hk hm (by omega) V
  rw [← hl] at HS
  have hin : 16 * k + 1 < xs.length := by omega
  have hv := hcs (16 * k + 1) _ (show (Bts xs)[16 * k + 1]? = some (.int .u8 (xs.getD (16 * k + 1) 0)) by unfold Bts; rw [List.getElem?_map, List.getElem?_eq_getElem hin, List.getD_eq_getElem?_getD, List.getElem?_eq_getElem hin]; rfl)
  have hr : 0 ≤ xs.getD (16 * k + 1) 0 ∧ xs.getD (16 * k + 1) 0 < 256 := by
    rw [List.getD_eq_getElem?_getD, List.getElem?_eq_getElem hin]; exact hok _ (List.getElem_mem hin)
  unfold S10.prio
  generalize xs.getD (16 * k + 1) 0 = v at *
  have hbl := block_lt_of_cell hv
  have ev : wrap64 v = v := IntWalk.wrap64_in _ ⟨by omega, by omega⟩
  have ea : off + (16 * k + 1) = off + 16 * k + 1 := by omega
  rw [ea] at hv
  have HP := Lib.hid fun V => priority09_any v V
  generalize (if S09.found v then S09.hz v + S09.ho v else -1) = r at *
  clear ea hl hcap hin
  go_enter Try.func52, Try.ntmps52
  go_wp2_with fail
  refine (HS.out _).mono ?_
  rintro e w1 ⟨rfl, hb1⟩
  have hB1 : Below w.heap.size w w1 := below_trans (by go_grown) hb1
  have z1 : w.heap.size ≤ w1.heap.size := hB1.size
  have hv1 : w1.cell? ⟨b, off + 16 * k + 1, none⟩ = some (.int .u8 v) := (hB1.cell (p := ⟨b, off + 16 * k + 1, none⟩) hbl).trans hv
  go_wp2_with fail
  (try rw [ev])
  refine (HP.out _).mono ?_
  rintro e w2 ⟨rfl, hb2⟩
  have hB2 := below_trans hB1 hb2
  go_wp2
  go_returns
  exact ⟨rfl, hB2⟩
end Go.Proofs.Ytgbjckjfjoiilaa
