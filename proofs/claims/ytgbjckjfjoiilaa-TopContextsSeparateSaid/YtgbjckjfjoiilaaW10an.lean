/- Whether two hashes share a place (layer 10's laws). No condition. -/
import Derived.Test.YtgbjckjfjoiilaaW10am
set_option linter.unusedSimpArgs false
set_option linter.unusedVariables false
set_option linter.unusedSectionVars false
namespace Go.Proofs.Ytgbjckjfjoiilaa
open Go.RowKit

set_option maxHeartbeats 400000 in
theorem indexFuncIntsC_any (F : FuncId) (hF : ∀ args w, (callFunc F args).run Try.prog w = .ok (.enter F args) w) (c : Value) (test : Nat → Bool) (w : World) (xs : List Nat)
    (hv : ∀ x W, x ∈ xs → Below w.heap.size w W → Calls Try.prog F #[.int .i64 (x : Int), c] W fun e w' => e = .returned (.bool (test x)) ∧ Below W.heap.size W w') (a : Option Addr) (cap : Nat) (hlen : xs.length ≤ 9223372036854775807) (hrd : Rd w a (Nts xs)) :
    Calls Try.prog 76 #[.slice a xs.length cap, .func (.func F) #[] #[c]] w fun e w' => ∃ r : Int, e = .returned (.int .i64 r) ∧ decide (0 ≤ r) = xs.any test ∧ Below w.heap.size w w' := by
  have Hv := Lib.hid hv
  clear hv
  go_enter Try.func76, Try.ntmps76
  go_wp2
  go_loopw [8] (fun i wr => ∃ k : Nat, k ≤ xs.length ∧ i = .int .i64 k ∧ (xs.take k).any test = false ∧ Below w.heap.size w wr) (fun i _ => xs.length - (intOf i).toNat)
  case atStart => exact ⟨0, by omega, rfl, rfl, Below.refl _ _⟩
  case round =>
    obtain ⟨k, hk, rfl, hno, hB⟩ := hrel
    have zr : w.heap.size ≤ wr.heap.size := hB.size
    have Hno := Lib.hid hno
    clear hno
    by_cases hlt : k < xs.length
    · obtain ⟨g, o, rfl, hcs⟩ := (hrd.step hB).at (i := k) (by rw [Nts_length]; exact hlt)
      have hc : wr.cell? ⟨g, o + k, none⟩ = some (.int .i64 ((xs[k] : Nat) : Int)) := by rw [hcs k (by rw [Nts_length]; exact hlt)]; simp [Nts]
      have HT := Lib.hid (Hv.out xs[k] wr (List.getElem_mem hlt) hB)
      have Hs := Lib.hid (any_take_succ test xs k hlt)
      have Ha := Lib.hid (any_of_at test xs k hlt)
      generalize xs[k] = x at *
      clear hcs
      cases ht : test x with
      | true =>
        have Hany := Lib.hid (Ha.out ht)
        rw [ht] at HT
        clear ht
        go_wp2_with fail
        refine HT.out.mono ?_
        rintro e w1 ⟨rfl, hb1⟩
        have hB1 := below_trans hB hb1
        go_wp2
        go_returns
        exact ⟨_, rfl, by rw [Hany.out]; simp, hB1⟩
      | false =>
        have Hn := Lib.hid (show (xs.take (k + 1)).any test = false by rw [Hs.out, Hno.out, ht]; rfl)
        rw [ht] at HT
        clear ht
        go_wp2_with fail
        refine HT.out.mono ?_
        rintro e w1 ⟨rfl, hb1⟩
        have hB1 := below_trans hB hb1
        go_wp2
        go_roundw
        case rel => exact ⟨k + 1, by omega, by go_num, Hn.out, hB1⟩
        case measure => simp [intOf]; omega
    · obtain rfl : k = xs.length := by omega
      go_wp2
      go_returns
      refine ⟨_, rfl, ?_, hB⟩
      have := Hno.out
      rw [List.take_length] at this
      rw [this]; rfl

set_option maxHeartbeats 400000 in
theorem containsFuncIntsC_any (F : FuncId) (hF : ∀ args w, (callFunc F args).run Try.prog w = .ok (.enter F args) w) (c : Value) (test : Nat → Bool) (w : World) (xs : List Nat)
    (hv : ∀ x W, x ∈ xs → Below w.heap.size w W → Calls Try.prog F #[.int .i64 (x : Int), c] W fun e w' => e = .returned (.bool (test x)) ∧ Below W.heap.size W w') (a : Option Addr) (cap : Nat) (hlen : xs.length ≤ 9223372036854775807) (hrd : Rd w a (Nts xs)) :
    Calls Try.prog 63 #[.slice a xs.length cap, .func (.func F) #[] #[c]] w fun e w' => e = .returned (.bool (xs.any test)) ∧ Below w.heap.size w w' := by
  have HI := Lib.hid (indexFuncIntsC_any F hF c test w xs hv a cap hlen hrd)
  clear hv
  generalize xs.any test = b at *
  go_enter Try.func63, Try.ntmps63
  go_wp2_with fail
  refine HI.out.mono ?_
  rintro e w1 ⟨r, rfl, hr, hb1⟩
  go_wp2
  go_returns
  exact ⟨by first | rfl | exact ret_bool hr, hb1⟩

/-- Whether two hashes share a place. -/
def S10.share (n a b : Nat) : Bool := (S10.places n a).any fun i => decide (i ∈ S10.places n b)
theorem contains_map (l : List Nat) (x : Nat) : (l.map fun i : Nat => (i : Int)).contains (x : Int) = l.contains x := by
  induction l with
  | nil => rfl
  | cons y l ih =>
    rw [List.map_cons, List.contains_cons, List.contains_cons, ih]
    congr 1
    rw [Bool.eq_iff_iff]
    simp
    omega

theorem share1_any (l : List Nat) (b o cap : Nat) (hl : l.length ≤ 3) (x : Nat) (B : Nat) (w : World) (hB : w.cell? ⟨B, 0, none⟩ = some (.slice (some ⟨b, o, none⟩) l.length cap)) (hcs : w.rangeAt b o (Nts l)) :
    Calls Try.prog 64 #[.int .i64 (x : Int), .pointer (some ⟨B, 0, none⟩)] w fun e w' => e = .returned (.bool (decide (x ∈ l))) ∧ Below w.heap.size w w' := by
  have HC := Lib.hid fun (W : World) (hW : W.rangeAt b o (Nts l)) => Try.slices_Contains_int b o l.length cap (l.map fun i : Nat => (i : Int)) (x : Int) W (by simp) (by omega) (fun j hj => by
    rw [List.length_map] at hj
    have := hW j _ (Nts_at hj)
    rw [this]
    rw [List.getD_eq_getElem?_getD, List.getD_eq_getElem?_getD, List.getElem?_map, List.getElem?_eq_getElem hj]
    rfl)
  have e : ((l.map fun i : Nat => (i : Int)).take l.length).contains (x : Int) = decide (x ∈ l) := by
    rw [List.take_of_length_le (by simp), contains_map, Bool.eq_iff_iff]; simp
  rw [e] at HC
  clear e
  go_enter Try.func64, Try.ntmps64
  go_wp2_with fail
  refine (HC.out _ hcs).mono ?_
  rintro e w1 ⟨rfl, rfl⟩
  go_wp2
  go_returns
  exact ⟨rfl, Below.refl _ _⟩

set_option maxHeartbeats 1000000 in
theorem share10_any (n a b : Nat) (hn : n ≤ 16) (ha : a < 4294967296) (hb : b < 4294967296) (w : World) :
    Calls Try.prog 36 #[.int .i64 (n : Int), .int .u32 (a : Int), .int .u32 (b : Int)] w fun e w' => e = .returned (.bool (S10.share n a b)) ∧ Below w.heap.size w w' := by
  have HA := Lib.hid fun W => rplaces10_any n a hn ha W
  have HB := Lib.hid fun W => rplaces10_any n b hn hb W
  have la3 : (S10.places n a).length ≤ 3 := S10.plc_len n a 3
  have lb3 : (S10.places n b).length ≤ 3 := S10.plc_len n b 3
  have lb1 := S10.places_ne n b
  unfold S10.share
  obtain ⟨pa, hpa⟩ : ∃ x, S10.places n a = x := ⟨_, rfl⟩
  obtain ⟨pb, hpb⟩ : ∃ x, S10.places n b = x := ⟨_, rfl⟩
  rw [hpa] at HA la3 ⊢
  rw [hpb] at HB lb3 lb1 ⊢
  have HN := Lib.hid lb1
  have HS := Lib.hid fun (pb' o' c' B' : Nat) (W : World) (x : Nat) h1 h2 => share1_any pb pb' o' c' lb3 x B' W h1 h2
  clear hpa hpb lb1
  go_enter Try.func36, Try.ntmps36
  go_wp2_with fail
  refine (HB.out _).mono ?_
  rintro e w1 ⟨xa, xc, rfl, hown, hb1⟩
  obtain ⟨lb, lo, rfl, hlc⟩ := Rd.of_owns hown (fun e => HN.out (by rw [← List.length_eq_zero_iff, Nts_length] at e; exact List.length_eq_zero_iff.1 e))
  obtain ⟨w2, hw2⟩ : ∃ w2, w1.alloc (Obj.cells #[.slice (some ⟨lb, lo, none⟩) pb.length xc] 75) = w2 := ⟨_, rfl⟩
  have hb2 : Below w1.heap.size w1 w2 := by rw [← hw2]; exact (Below.refl _ w1).alloc (Nat.le_refl _) _
  have A2 : Blk w2 w1.heap.size [.slice (some ⟨lb, lo, none⟩) pb.length xc] 75 := by rw [← hw2]; exact Blk.new w1 _ _
  have hB2 := below_trans hb1 hb2
  have hlc2 := rangeAt_step hlc hb2
  clear hown hlc
  go_wp2_with fail
  refine (HA.out _).mono ?_
  rintro e w3 ⟨ya, yc, rfl, hown3, hb3⟩
  have hB3 := below_trans hB2 hb3
  have A3 := A2.step hb3
  have hlc3 := rangeAt_step hlc2 hb3
  have hrd3 := Rd.of_owns hown3
  have HC := Lib.hid (containsFuncIntsC_any 64 (enters_of Try.func64 (by kernel_rfl) rfl) (.pointer (some ⟨w1.heap.size, 0, none⟩)) (fun i => decide (i ∈ pb)) w3 pa
    (fun x W _ hW => HS.out lb lo xc w1.heap.size W x ((A3.step hW).cell 0) (rangeAt_step hlc3 hW)) ya yc (by omega) hrd3)
  clear hown3 hrd3
  go_wp2_with fail
  refine HC.out.mono ?_
  rintro e w4 ⟨rfl, hb4⟩
  have hB4 := below_trans hB3 hb4
  go_wp2
  go_returns
  exact ⟨rfl, hB4⟩
end Go.Proofs.Ytgbjckjfjoiilaa
