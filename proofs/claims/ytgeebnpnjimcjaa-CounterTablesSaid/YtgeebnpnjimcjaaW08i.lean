/- The law CounterMirrors at every input. No condition. -/
import Derived.Test.YtgeebnpnjimcjaaW08g
import Derived.Test.YtgeebnpnjimcjaaBase3
set_option linter.unusedSimpArgs false
set_option linter.unusedVariables false
set_option linter.unusedSectionVars false
namespace Go.Proofs.Ytgeebnpnjimcjaa
open Go.RowKit

theorem elems_bools : Elems Try.prog 37 4 1 1 [.bool false] := ⟨Try.underlying37, by kernel_rfl, rfl, by decide⟩

theorem S08.towards_mirror (P N t : Int) : S08.towards (65535 - P) N (65535 - t) = 65535 - S08.towards P N t := by
  unfold S08.towards
  have e : 2 * ((65535 - t) - (65535 - P)) = -(2 * (t - P)) := by omega
  rw [e, Int.neg_tdiv]; omega
theorem S08.next_mirror (limit P N : Int) (b : Bool) : S08.next limit (65535 - P, N) (!b) = (65535 - (S08.next limit (P, N) b).1, (S08.next limit (P, N) b).2) := by
  have h : S08.towards (65535 - P) N (if (!b) = true then 65535 else 0) = 65535 - S08.towards P N (if b = true then 65535 else 0) := by
    rw [← S08.towards_mirror]; cases b <;> rfl
  simp only [S08.next, h]
theorem S08.run_mirror (p limit : Int) (bs : List Bool) : S08.run (65535 - p) limit (bs.map (!·)) = (65535 - (S08.run p limit bs).1, (S08.run p limit bs).2) := by
  have : ∀ (bs : List Bool) (c : Int × Int), (bs.map (!·)).foldl (S08.next limit) (65535 - c.1, c.2) = (65535 - (bs.foldl (S08.next limit) c).1, (bs.foldl (S08.next limit) c).2) := by
    intro bs
    induction bs with
    | nil => intro c; rfl
    | cons b bs ih => intro c; simp only [List.map_cons, List.foldl_cons, S08.next_mirror]; exact ih _
  exact this bs (p, 0)

/-- The first k of some bits turned. -/
def flips (k : Nat) (bs : List Bool) : List Bool := (bs.take k).map (!·) ++ bs.drop k
theorem flips_zero (bs : List Bool) : flips 0 bs = bs := by simp [flips]
theorem flips_all (bs : List Bool) : flips bs.length bs = bs.map (!·) := by simp [flips]
theorem flips_length (k : Nat) (bs : List Bool) : (flips k bs).length = bs.length := by simp [flips]; omega
theorem flips_get {k : Nat} {bs : List Bool} (h : k < bs.length) : (flips k bs)[k]? = some bs[k] := by
  unfold flips
  rw [List.getElem?_append_right (by simp; omega)]
  simp [Nat.min_eq_left (Nat.le_of_lt h), h]
theorem flips_set {k : Nat} {bs : List Bool} (h : k < bs.length) : (flips k bs).set k (!bs[k]) = flips (k + 1) bs := by
  unfold flips
  rw [List.set_append_right _ _ (by simp; omega)]
  simp only [List.length_map, List.length_take, Nat.min_eq_left (Nat.le_of_lt h), Nat.sub_self]
  rw [List.drop_eq_getElem_cons h, List.set_cons_zero, List.take_succ_eq_append_getElem h, List.map_append]
  simp

set_option maxHeartbeats 1000000 in
theorem counterMirrors_any (p l : Int) (a : Option Addr) (bs : List Bool) (cap : Nat) (w : World) (hp : 0 ≤ p) (hp' : p ≤ 65535) (hl : 0 ≤ l) (hl' : l ≤ 65535) (hlen : bs.length ≤ 9223372036854775807)
    (hrd : Rd w a (Bools bs)) :
    Calls Try.prog 6 #[.int .u16 p, .slice a bs.length cap, .int .u16 l] w fun e w' => e = .returned (.bool true) ∧ Below w.heap.size w w' := by
  by_cases hlong : 300 < bs.length
  · have hl3 : (300 : Int) < (bs.length : Int) := by omega
    go_enter Try.func6, Try.ntmps6
    go_wp2_with fail
    refine (awake08_any _).mono ?_
    rintro e w1 ⟨rfl, hb1⟩
    have hB1 : Below w.heap.size w w1 := below_trans (by go_grown) hb1
    have z1 : w.heap.size ≤ w1.heap.size := hB1.size
    go_wp2
    go_returns
    exact ⟨rfl, hB1⟩
  · have hl3 : ¬ (300 : Int) < (bs.length : Int) := by omega
    have hcells : ∀ u ∈ Bools bs, u.oneCell' = true := by intro u hu; simp only [Bools, List.mem_map] at hu; obtain ⟨x, _, rfl⟩ := hu; rfl
    have hrd' := Lib.hid (hrd.step ((Below.refl w.heap.size w).alloc (Nat.le_refl _) (Obj.cells #[] 4)))
    go_enter Try.func6, Try.ntmps6
    go_wp2_with (at_builtin; refine wpList_append_rd _ _ 37 4 1 1 _ w.heap.size elems_bools rfl rfl _ 0 [] rfl (World.ownsRow_made w #[] 0 (Nat.le_refl _) (by decide) rfl) a bs.length cap (Bools bs) rfl (by simp [Bools]) hrd'.out hcells (by unfold maxLen; omega) (by omega) (by simp) ?_; intro a2 cap2 w2 hown2 hgrow2)
    have hB2 : Below w.heap.size w w2 := Below.grown (by go_grown) hgrow2 (by simp) (fun k e => by cases e; exact Nat.le_refl _)
    have z2 : w.heap.size ≤ w2.heap.size := hB2.size
    simp only [Nat.zero_add, List.nil_append] at hown2
    clear hgrow2
    have Hown2 := Lib.hid hown2
    clear hown2
    go_loopw [8] (fun i wr => ∃ k : Nat, k ≤ bs.length ∧ i = .int .i64 k ∧ wr.ownsRow w.heap.size 4 1 (.slice a2 bs.length cap2) bs.length (Bools (flips k bs)) ∧ Below w.heap.size w wr)
      (fun i _ => bs.length - (intOf i).toNat)
    case atStart => exact ⟨0, by omega, rfl, by rw [flips_zero]; exact Hown2.out, hB2⟩
    case round =>
      rename_i wr _
      obtain ⟨k, hk, rfl, hown, hB⟩ := hrel
      have zr : w.heap.size ≤ wr.heap.size := hB.size
      by_cases hlt : k < bs.length
      · obtain ⟨g, o, rfl, _⟩ := (Rd.of_owns hown).at (i := k) (by simp [Bools, flips_length]; exact hlt)
        obtain rfl : o = 0 := by
          rcases hown.2 with ⟨h', _⟩ | ⟨g', cap', cur, h', _⟩
          · simp at h'
          · simp at h'; exact h'.1.2
        have hg : w.heap.size ≤ g := (hown.lt g rfl).1
        have hx : wr.cell? ⟨g, k, none⟩ = some (.bool bs[k]) := by rw [hown.cellAt k (by omega)]; simp [Bools, flips_get hlt]
        have hf : wr.frozen? ⟨g, k, none⟩ = false := hown.frozenAt k
        have hst := (hown.stored k (.bool (!bs[k]))).1
        have e1 : (Bools (flips k bs)).set k (.bool (!bs[k])) = Bools (flips (k + 1) bs) := by rw [← flips_set hlt]; simp [Bools, List.map_set]
        rw [e1] at hst
        have Hst := Lib.hid hst
        clear hst e1 hown
        go_wp2
        go_roundw
        case rel => exact ⟨k + 1, by omega, by go_num, Hst.out, hB.setCell hg _⟩
        case measure => simp [intOf]; omega
      · obtain rfl : k = bs.length := by omega
        rw [flips_all] at hown
        have hrd1 : Rd wr a (Bools bs) := hrd.step hB
        have hrd2 : Rd wr a2 (Bools (bs.map (!·))) := Rd.of_owns hown
        have hl2 : (bs.map (!·)).length = bs.length := by simp
        have hmir := S08.run_mirror p (1 + l % 1023) bs
        have Hmir := Lib.hid hmir
        have hok := S08.run_ok hp hp' (by omega : 1 ≤ 1 + l % 1023) bs
        clear hown hmir
        go_wp2_with fail
        refine (after08_any p _ a bs cap _ hp hp' (by omega) (by omega) hlen hrd1).mono ?_
        rintro e w3 ⟨rfl, hb3⟩
        have hB3 : Below w.heap.size w w3 := below_trans hB hb3
        have z3 : w.heap.size ≤ w3.heap.size := hB3.size
        have hrd3 := Lib.hid ((hrd2.step hb3).step ((Below.refl w3.heap.size w3).alloc (Nat.le_refl _) (Obj.cells #[.int .i64 (S08.run p (1 + l % 1023) bs).1, .int .i64 (S08.run p (1 + l % 1023) bs).2] 23)))
        clear hrd1 hrd2
        have hA := after08_any (65535 - p) (1 + l % 1023) a2 (bs.map (!·)) cap2 _ (by omega) (by omega) (by omega) (by omega) (by simp; omega) hrd3.out
        rw [hl2, Hmir.out] at hA
        have HA := Lib.hid hA
        clear hA
        go_wp2_with fail
        refine HA.out.mono ?_
        rintro e w4 ⟨rfl, hb4⟩
        have hB4 : Below w.heap.size w w4 := below_trans (by go_grown) hb4
        have z4 : w.heap.size ≤ w4.heap.size := hB4.size
        have s34 : w3.heap.size < w4.heap.size := by have := hb4.size; simp at this; omega
        have k1 : w4.cell? ⟨w3.heap.size, 0, none⟩ = some (.int .i64 (S08.run p (1 + l % 1023) bs).1) := (hb4.cell (by simp <;> omega)).trans (by go_simp)
        have k2 : w4.cell? ⟨w3.heap.size, 1, none⟩ = some (.int .i64 (S08.run p (1 + l % 1023) bs).2) := (hb4.cell (by simp <;> omega)).trans (by go_simp)
        go_wp2_with fail
        refine (awake08_any _).mono ?_
        rintro e w5 ⟨rfl, hb5⟩
        have hB5 : Below w.heap.size w w5 := below_trans (by go_grown) hb5
        have k3 : w5.cell? ⟨w3.heap.size, 0, none⟩ = some (.int .i64 (S08.run p (1 + l % 1023) bs).1) := (hb5.cell (by simp <;> omega)).trans (by go_simp)
        have k4 : w5.cell? ⟨w3.heap.size, 1, none⟩ = some (.int .i64 (S08.run p (1 + l % 1023) bs).2) := (hb5.cell (by simp <;> omega)).trans (by go_simp)
        have k5 : w5.cell? ⟨w4.heap.size, 0, none⟩ = some (.int .i64 (65535 - (S08.run p (1 + l % 1023) bs).1)) := (hb5.cell (by simp <;> omega)).trans (by go_simp)
        have k6 : w5.cell? ⟨w4.heap.size, 1, none⟩ = some (.int .i64 (S08.run p (1 + l % 1023) bs).2) := (hb5.cell (by simp <;> omega)).trans (by go_simp)
        have hsum : (S08.run p (1 + l % 1023) bs).1 + (65535 - (S08.run p (1 + l % 1023) bs).1) = 65535 := by omega
        go_wp2
        go_returns
        exact ⟨rfl, hB5⟩

end Go.Proofs.Ytgeebnpnjimcjaa
