/- What the helper after (law 9) returns. No condition. -/
import Derived.Test.YtaolpmedlconoaaW09j
set_option linter.unusedSimpArgs false
set_option linter.unusedVariables false
set_option linter.unusedSectionVars false
namespace Go.Proofs.Ytaolpmedlconoaa
open Go.RowKit

def Bools (bs : List Bool) : List Value := bs.map Value.bool

theorem S09.next_at {s : Int} (hf : S09.found s = true) (b : Int) (hb : b = 0 ∨ b = 1) :
    S09.found (S09.nextS s b) = true ∧ S09.hz (S09.nextS s b) = S09.z2 (S09.hz s) (S09.ho s) b ∧ S09.ho (S09.nextS s b) = S09.o2 (S09.hz s) (S09.ho s) b ∧ S09.hl (S09.nextS s b) = b := by
  have hn := S09.next_ok hf
  have hi : S09.is (S09.z2 (S09.hz s) (S09.ho s) b) (S09.o2 (S09.hz s) (S09.ho s) b) b = true := by
    rcases hb with rfl | rfl
    · exact hn.1
    · exact hn.2
  have e : S09.nextS s b = S09.idx (S09.z2 (S09.hz s) (S09.ho s) b) (S09.o2 (S09.hz s) (S09.ho s) b) b := by
    simp only [S09.nextS, hf, if_true, if_pos hb, S09.next]
  rw [e]
  generalize S09.z2 (S09.hz s) (S09.ho s) b = z at *
  generalize S09.o2 (S09.hz s) (S09.ho s) b = o at *
  obtain ⟨t', o', l', k1, k2, k3, rfl, rfl, rfl, k4, k5⟩ := S09.is_place hi
  rw [k5]
  have hc := S09.cnt_lt k1 k2 k3 k4
  obtain ⟨e1, e2, e3⟩ := S09.at_cnt k1 k2 k3 k4
  exact ⟨decide_eq_true (by omega), e1, e2, e3⟩

def S09.bit (x flip : Bool) : Int := if x != flip then 1 else 0
def S09.walk (flip : Bool) (bs : List Bool) (s : Int) : Int := bs.foldl (fun s x => S09.nextS s (S09.bit x flip)) s
theorem S09.bit_or (x flip : Bool) : S09.bit x flip = 0 ∨ S09.bit x flip = 1 := by unfold S09.bit; split <;> simp
theorem S09.walk_found (flip : Bool) : ∀ (bs : List Bool) (s : Int), S09.found s = true → S09.found (S09.walk flip bs s) = true
  | [], s, h => h
  | x :: bs, s, h => S09.walk_found flip bs _ (S09.next_at h _ (S09.bit_or x flip)).1
theorem S09.walk_snoc (flip : Bool) (bs : List Bool) (s : Int) (k : Nat) (h : k < bs.length) :
    S09.walk flip (bs.take (k + 1)) s = S09.nextS (S09.walk flip (bs.take k) s) (S09.bit bs[k] flip) := by
  rw [List.take_succ_eq_append_getElem h]
  simp only [S09.walk, List.foldl_append, List.foldl_cons, List.foldl_nil]
theorem S09.nextE_zero {s b : Int} (hf : S09.found s = true) (hb : b = 0 ∨ b = 1) : S09.nextE s b = 0 := by simp only [S09.nextE, hf, if_true, if_pos hb]

set_option maxHeartbeats 1000000 in
theorem after09_any (s : Int) (a : Option Addr) (bs : List Bool) (cap : Nat) (flip : Bool) (w : World) (hf : S09.found s = true) (hlen : bs.length ≤ 9223372036854775807) (hrd : Rd w a (Bools bs)) :
    Calls Try.prog 13 #[.int .i64 s, .slice a bs.length cap, .bool flip] w fun e w' => e = .returned (.tuple #[.int .i64 (S09.walk flip bs s), .bool true]) ∧ Below w.heap.size w w' := by
  go_enter Try.func13, Try.ntmps13
  go_wp2
  go_loopw [0, 15] (fun v0 i wr => ∃ k : Nat, k ≤ bs.length ∧ i = .int .i64 k ∧ v0 = .int .i64 (S09.walk flip (bs.take k) s) ∧ Below w.heap.size w wr) (fun _ i _ => bs.length - (intOf i).toNat)
  case atStart => exact ⟨0, by omega, rfl, rfl, Below.refl _ _⟩
  case round =>
    obtain ⟨k, hk, rfl, rfl, hB⟩ := hrel
    have zr : w.heap.size ≤ wr.heap.size := hB.size
    by_cases hlt : k < bs.length
    · obtain ⟨g, o, rfl, hcs⟩ := (hrd.step hB).at (i := k) (by simpa [Bools] using hlt)
      have hc : wr.cell? ⟨g, o + k, none⟩ = some (.bool bs[k]) := by rw [hcs k (by simpa [Bools] using hlt)]; simp [Bools]
      have hff := S09.walk_found flip (bs.take k) s hf
      have HS := Lib.hid (S09.walk_snoc flip bs s k hlt)
      have HN := Lib.hid fun W => next09_any (S09.walk flip (bs.take k) s) (S09.bit bs[k] flip) W
      rw [S09.nextE_zero hff (S09.bit_or _ _)] at HN
      clear hff hcs
      generalize S09.walk flip (bs.take k) s = s0 at *
      generalize hbk : bs[k] = x at *
      clear hbk
      cases x <;> cases flip
      all_goals
        go_wp2_with fail
        refine (HN.out _).mono ?_
        rintro e w1 ⟨rfl, hb1⟩
        have hB1 := below_trans hB hb1
        go_wp2
        go_roundw
        case rel => exact ⟨k + 1, by omega, by go_num, by rw [HS.out], hB1⟩
        case measure => simp [intOf]; omega
    · obtain rfl : k = bs.length := by omega
      have HS := Lib.hid (show S09.walk flip (bs.take bs.length) s = S09.walk flip bs s by rw [List.take_length])
      go_wp2
      go_returns
      exact ⟨by rw [HS.out]; rfl, hB⟩
end Go.Proofs.Ytaolpmedlconoaa
