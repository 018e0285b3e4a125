/- What Find, node and Get (layer 10) return. What node and Get (layer 10) return. What Get (layer 10) returns. No condition. -/
import Derived.Test.YtgbjckjfjoiilaaW10f
set_option linter.unusedSimpArgs false
set_option linter.unusedVariables false
set_option linter.unusedSectionVars false
namespace Go.Proofs.Ytgbjckjfjoiilaa
open Go.RowKit

/-- A table lies in the world. -/
structure Tab (xs : List Int) (a : Option Addr) (cap : Nat) (w : World) : Prop where
  ok : ∀ x ∈ xs, 0 ≤ x ∧ x < 256
  cap : xs.length ≤ cap
  rd : Rd w a (Bts xs)
theorem Tab.step {xs : List Int} {a : Option Addr} {cap : Nat} {w w' : World} (h : Tab xs a cap w) (hb : Below w.heap.size w w') : Tab xs a cap w' := ⟨h.ok, h.cap, h.rd.step hb⟩
/-- Its value. -/
def tabV (bits : Int) (xs : List Int) (a : Option Addr) (cap : Nat) : Value := .agg #[.int .i64 bits, .slice a xs.length cap]

theorem S10.correct {bits : Int} {xs : List Int} (h : S10.check bits xs = 0) : ∃ n : Nat, bits = n ∧ n ≤ 16 ∧ xs.length = 16 * 2 ^ n ∧ S10.bad xs (2 ^ n) = false := by
  unfold S10.check at h
  split at h
  · cases h
  · rename_i h1
    obtain ⟨n, rfl⟩ := Int.eq_ofNat_of_zero_le (show 0 ≤ bits by omega)
    split at h
    · cases h
    · rename_i h2
      split at h
      · cases h
      · rename_i h3
        exact ⟨n, rfl, by omega, by simpa using h2, by simpa using h3⟩

def S10.findN (bits : Int) (xs : List Int) (hash : Nat) : Nat := if S10.check bits xs = 0 then (S10.find bits.toNat xs hash).getD 0 else 0
def S10.findB (bits : Int) (xs : List Int) (hash : Nat) : Bool := if S10.check bits xs = 0 then (S10.find bits.toNat xs hash).isSome else false

set_option maxHeartbeats 1000000 in
theorem Find10_any (bits : Int) (xs : List Int) (hash : Nat) (hh : hash < 4294967296) (a : Option Addr) (cap : Nat) (w : World) (hT : Tab xs a cap w) :
    Calls Try.prog 21 #[tabV bits xs a cap, .int .u32 (hash : Int)] w fun e w' => e = .returned (.tuple #[.int .i64 (S10.findN bits xs hash : Int), .bool (S10.findB bits xs hash)]) ∧ Below w.heap.size w w' := by
  have HC := Lib.hid fun W (h : Tab xs a cap W) => check10_any bits xs h.ok a cap h.cap W h.rd
  unfold tabV
  by_cases hc : S10.check bits xs = 0
  · have e1 : S10.findN bits xs hash = (S10.find bits.toNat xs hash).getD 0 := if_pos hc
    have e2 : S10.findB bits xs hash = (S10.find bits.toNat xs hash).isSome := if_pos hc
    rw [e1, e2]
    rw [hc] at HC
    obtain ⟨n, rfl, hn, hl, _⟩ := S10.correct hc
    obtain ⟨b, off, rfl, hcs⟩ := hT.rd (fun e => by have h1 := congrArg List.length e; rw [Bts_length, hl] at h1; have h2 := Nat.two_pow_pos n; simp only [List.length_nil] at h1; omega)
    rw [Int.toNat_natCast]
    have hcap := hT.cap
    have HF := Lib.hid fun W (h : W.rangeAt b off (Bts xs)) => find10_any n hash hn hh xs hl b off cap (by rw [← hl]; exact hcap) W h
    rw [← hl] at HF
    generalize (S10.find n xs hash).getD 0 = i at *
    generalize (S10.find n xs hash).isSome = q at *
    clear e1 e2 hc hl
    go_enter Try.func21, Try.ntmps21
    go_wp2_with fail
    refine (HC.out _ (hT.step (by go_grown))).mono ?_
    rintro e w1 ⟨rfl, hb1⟩
    have hB1 : Below w.heap.size w w1 := below_trans (by go_grown) hb1
    have z1 : w.heap.size ≤ w1.heap.size := hB1.size
    have hc1 : Blk w1 w.heap.size [.int .i64 (n : Int), .slice (some ⟨b, off, none⟩) xs.length cap] 26 := (Blk.new w _ _).step hb1
    have k1 : w1.cell? ⟨w.heap.size, 0, none⟩ = some (.int .i64 (n : Int)) := hc1.cell 0
    have k2 : w1.cell? ⟨w.heap.size, 1, none⟩ = some (.slice (some ⟨b, off, none⟩) xs.length cap) := hc1.cell 1
    go_wp2_with fail
    refine (HF.out _ (rangeAt_step hcs hB1)).mono ?_
    rintro e w2 ⟨rfl, hb2⟩
    have hB2 : Below w.heap.size w w2 := below_trans (by go_grown) hb2
    have z2 : w.heap.size ≤ w2.heap.size := hB2.size
    go_wp2
    go_returns
    exact ⟨rfl, hB2⟩
  · have e1 : S10.findN bits xs hash = 0 := if_neg hc
    have e2 : S10.findB bits xs hash = false := if_neg hc
    rw [e1, e2]
    have hc' : (S10.check bits xs != 0) = true := by simpa using hc
    generalize S10.check bits xs = C at *
    clear hc e1 e2
    go_enter Try.func21, Try.ntmps21
    go_wp2_with fail
    refine (HC.out _ (hT.step (by go_grown))).mono ?_
    rintro e w1 ⟨rfl, hb1⟩
    have hB1 : Below w.heap.size w w1 := below_trans (by go_grown) hb1
    have z1 : w.heap.size ≤ w1.heap.size := hB1.size
    go_wp2
    go_returns
    exact ⟨rfl, hB1⟩
end Go.Proofs.Ytgbjckjfjoiilaa

namespace Go.Proofs.Ytgbjckjfjoiilaa
open Go.RowKit

/-- Whether there is a node of a slot. -/
def S10.exists (bits n k : Int) : Bool := decide (0 ≤ n ∧ n < 2 ^ bits.toNat) && decide (1 ≤ k ∧ k ≤ 15)
def S10.node (bits : Int) (xs : List Int) (n k : Int) : Int := if S10.check bits xs = 0 then (if S10.exists bits n k then 0 else 2) else S10.check bits xs

set_option maxHeartbeats 1000000 in
theorem node10_any (bits : Int) (xs : List Int) (n k : Int) (a : Option Addr) (cap : Nat) (w : World) (hT : Tab xs a cap w) :
    Calls Try.prog 58 #[tabV bits xs a cap, .int .i64 n, .int .i64 k] w fun e w' => e = .returned (.int .i64 (S10.node bits xs n k)) ∧ Below w.heap.size w w' := by
  have HC := Lib.hid fun W (h : Tab xs a cap W) => check10_any bits xs h.ok a cap h.cap W h.rd
  unfold tabV
  by_cases hc : S10.check bits xs = 0
  · have e1 : S10.node bits xs n k = if S10.exists bits n k then 0 else 2 := if_pos hc
    rw [e1]
    rw [hc] at HC
    obtain ⟨m, rfl, hm, hz1, hz2⟩ := S10.correct hc
    clear hz1 hz2
    have hp := wrap_pow hm
    have hps := pow_small hm
    have hpp := Nat.two_pow_pos m
    have hw : wrap64 (wrap64 ((2 : Int) ^ m) - 1) = ((2 ^ m : Nat) : Int) - 1 := by
      rw [hp]
      generalize 2 ^ m = N at hps hpp ⊢
      exact IntWalk.wrap64_in _ ⟨by omega, by omega⟩
    have hq : decide (0 ≤ n ∧ n ≤ ((2 ^ m : Nat) : Int) - 1) = decide (0 ≤ n ∧ n < 2 ^ m) := by
      have e : (2 : Int) ^ m = ((2 ^ m : Nat) : Int) := by simp
      rw [e]
      generalize 2 ^ m = N
      congr 1
      apply propext
      omega
    have hx : S10.exists (m : Int) n k = (decide (0 ≤ n ∧ n < 2 ^ m) && decide (1 ≤ k ∧ k ≤ 15)) := rfl
    have W1 := Lib.hid fun W => within10_any n 0 (((2 ^ m : Nat) : Int) - 1) W
    have W2 := Lib.hid fun W => within10_any k 1 15 W
    rw [hq] at W1
    rw [hx]
    generalize decide (0 ≤ n ∧ n < 2 ^ m) = p at *
    generalize decide (1 ≤ k ∧ k ≤ 15) = q at *
    have Hw := Lib.hid hw
    clear hq hx e1 hc hp hps hpp hw
    go_enter Try.func58, Try.ntmps58
    go_wp2_with fail
    refine (HC.out _ (hT.step (by go_grown))).mono ?_
    rintro e w1 ⟨rfl, hb1⟩
    have hB1 : Below w.heap.size w w1 := below_trans (by go_grown) hb1
    have z1 : w.heap.size ≤ w1.heap.size := hB1.size
    have hc1 : Blk w1 w.heap.size [.int .i64 (m : Int), .slice a xs.length cap] 26 := (Blk.new w _ _).step hb1
    have k1 : w1.cell? ⟨w.heap.size, 0, none⟩ = some (.int .i64 (m : Int)) := hc1.cell 0
    go_wp2_with fail
    rw [Hw.out]
    refine (W1.out _).mono ?_
    rintro e w2 ⟨rfl, hb2⟩
    have hB2 := below_trans hB1 hb2
    cases p with
    | false =>
      go_wp2
      go_returns
      exact ⟨rfl, hB2⟩
    | true =>
      go_wp2_with fail
      refine (W2.out _).mono ?_
      rintro e w3 ⟨rfl, hb3⟩
      have hB3 : Below w.heap.size w w3 := below_trans (by go_grown) hb3
      have z3 : w.heap.size ≤ w3.heap.size := hB3.size
      cases q <;> (go_wp2; go_returns; exact ⟨rfl, hB3⟩)
  · have e1 : S10.node bits xs n k = S10.check bits xs := if_neg hc
    rw [e1]
    have hc' : (S10.check bits xs != 0) = true := by simpa using hc
    generalize S10.check bits xs = C at *
    clear hc e1
    go_enter Try.func58, Try.ntmps58
    go_wp2_with fail
    refine (HC.out _ (hT.step (by go_grown))).mono ?_
    rintro e w1 ⟨rfl, hb1⟩
    have hB1 : Below w.heap.size w w1 := below_trans (by go_grown) hb1
    have z1 : w.heap.size ≤ w1.heap.size := hB1.size
    go_wp2
    go_returns
    exact ⟨rfl, hB1⟩
end Go.Proofs.Ytgbjckjfjoiilaa

namespace Go.Proofs.Ytgbjckjfjoiilaa
open Go.RowKit

def S10.getN (bits : Int) (xs : List Int) (n k : Int) : Int := if S10.node bits xs n k = 0 then xs.getD (16 * n.toNat + k.toNat) 0 else 0

theorem S10.node_zero {bits : Int} {xs : List Int} {n k : Int} (h : S10.node bits xs n k = 0) : S10.check bits xs = 0 ∧ S10.exists bits n k = true := by
  unfold S10.node at h
  split at h
  · rename_i h1
    refine ⟨h1, ?_⟩
    split at h
    · assumption
    · cases h
  · rename_i h1
    exact absurd h h1
theorem S10.exists_at {m : Nat} {n k : Int} (h : S10.exists (m : Int) n k = true) : ∃ n' k' : Nat, n = n' ∧ k = k' ∧ n' < 2 ^ m ∧ 1 ≤ k' ∧ k' ≤ 15 := by
  unfold S10.exists at h
  simp only [Bool.and_eq_true, decide_eq_true_eq, Int.toNat_natCast] at h
  obtain ⟨⟨h1, h2⟩, h3, h4⟩ := h
  obtain ⟨n', rfl⟩ := Int.eq_ofNat_of_zero_le h1
  obtain ⟨k', rfl⟩ := Int.eq_ofNat_of_zero_le (show 0 ≤ k by omega)
  refine ⟨n', k', rfl, rfl, ?_, by omega, by omega⟩
  have e : (2 : Int) ^ m = ((2 ^ m : Nat) : Int) := by simp
  rw [e] at h2
  omega

set_option maxHeartbeats 1000000 in
theorem get10_any (bits : Int) (xs : List Int) (n k : Int) (a : Option Addr) (cap : Nat) (w : World) (hT : Tab xs a cap w) :
    Calls Try.prog 27 #[tabV bits xs a cap, .int .i64 n, .int .i64 k] w fun e w' => e = .returned (.tuple #[.int .i64 (S10.getN bits xs n k), .int .i64 (S10.node bits xs n k)]) ∧ Below w.heap.size w w' := by
  have HN := Lib.hid fun W (h : Tab xs a cap W) => node10_any bits xs n k a cap W h
  unfold tabV at *
  by_cases hc : S10.node bits xs n k = 0
  · have e1 : S10.getN bits xs n k = xs.getD (16 * n.toNat + k.toNat) 0 := if_pos hc
    rw [e1, hc]
    rw [hc] at HN
    obtain ⟨h1, h2⟩ := S10.node_zero hc
    obtain ⟨m, rfl, hm, hl, hz2⟩ := S10.correct h1
    obtain ⟨n', k', rfl, rfl, hn, hk1, hk2⟩ := S10.exists_at h2
    have hps := pow_small hm
    obtain ⟨b, off, rfl, hcs⟩ := hT.rd (fun e => by have h1 := congrArg List.length e; rw [Bts_length, hl] at h1; simp only [List.length_nil] at h1; omega)
    have hin : 16 * n' + k' < xs.length := by omega
    have hcap := hT.cap
    have hv := hcs (16 * n' + k') _ (show (Bts xs)[16 * n' + k']? = some (.int .u8 (xs.getD (16 * n' + k') 0)) by unfold Bts; rw [List.getElem?_map, List.getElem?_eq_getElem hin, List.getD_eq_getElem?_getD, List.getElem?_eq_getElem hin]; rfl)
    have hr : 0 ≤ xs.getD (16 * n' + k') 0 ∧ xs.getD (16 * n' + k') 0 < 256 := by
      rw [List.getD_eq_getElem?_getD, List.getElem?_eq_getElem hin]; exact hT.ok _ (List.getElem_mem hin)
    have HS := Lib.hid fun V => slot10_any (m : Int) b off n' (2 ^ m) cap hn hps (by rw [← hl]; exact hcap) V
    rw [← hl] at HS
    simp only [Int.toNat_natCast]
    generalize xs.getD (16 * n' + k') 0 = v at *
    have hbl := block_lt_of_cell hv
    have ev : wrap64 v = v := IntWalk.wrap64_in _ ⟨by omega, by omega⟩
    have ea : off + (16 * n' + k') = off + 16 * n' + k' := by omega
    rw [ea] at hv
    clear ea e1 hc h1 h2 hl hz2 hcap hin hps hn
    go_enter Try.func27, Try.ntmps27
    go_wp2_with fail
    refine (HN.out _ (hT.step (by go_grown))).mono ?_
    rintro e w1 ⟨rfl, hb1⟩
    have hB1 : Below w.heap.size w w1 := below_trans (by go_grown) hb1
    have z1 : w.heap.size ≤ w1.heap.size := hB1.size
    have hc1 : Blk w1 w.heap.size [.int .i64 (m : Int), .slice (some ⟨b, off, none⟩) xs.length cap] 26 := (Blk.new w _ _).step hb1
    have k1 : w1.cell? ⟨w.heap.size, 0, none⟩ = some (.int .i64 (m : Int)) := hc1.cell 0
    have k2 : w1.cell? ⟨w.heap.size, 1, none⟩ = some (.slice (some ⟨b, off, none⟩) xs.length cap) := hc1.cell 1
    go_wp2_with fail
    refine (HS.out _).mono ?_
    rintro e w2 ⟨rfl, hb2⟩
    have hB2 : Below w.heap.size w w2 := below_trans (by go_grown) hb2
    have z2 : w.heap.size ≤ w2.heap.size := hB2.size
    have hv2 : w2.cell? ⟨b, off + 16 * n' + k', none⟩ = some (.int .u8 v) := (hB2.cell (p := ⟨b, off + 16 * n' + k', none⟩) hbl).trans hv
    go_wp2
    go_returns
    first | exact ⟨rfl, hB2⟩ | (refine ⟨?_, hB2⟩; simp [ev])
  · have e1 : S10.getN bits xs n k = 0 := if_neg hc
    rw [e1]
    have hc' : (S10.node bits xs n k != 0) = true := by simpa using hc
    generalize S10.node bits xs n k = C at *
    clear hc e1
    go_enter Try.func27, Try.ntmps27
    go_wp2_with fail
    refine (HN.out _ (hT.step (by go_grown))).mono ?_
    rintro e w1 ⟨rfl, hb1⟩
    have hB1 : Below w.heap.size w w1 := below_trans (by go_grown) hb1
    have z1 : w.heap.size ≤ w1.heap.size := hB1.size
    go_wp2
    go_returns
    exact ⟨rfl, hB1⟩
end Go.Proofs.Ytgbjckjfjoiilaa
