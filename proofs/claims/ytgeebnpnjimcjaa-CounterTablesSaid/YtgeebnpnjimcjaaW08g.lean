/- What the law's own function 'after' of layer 8 does: a counter behind some bits. Conditions: the start is a probability, the limit lies from 1 to 1023. -/
import Derived.Test.YtgeebnpnjimcjaaW08f
set_option linter.unusedSimpArgs false
set_option linter.unusedVariables false
set_option linter.unusedSectionVars false
namespace Go.Proofs.Ytgeebnpnjimcjaa
open Go.RowKit

namespace S08
/-- A counter behind one bit. -/
def next (limit : Int) (c : Int × Int) (b : Bool) : Int × Int := (towards c.1 c.2 (if b then 65535 else 0), min (c.2 + 1) limit)
/-- A counter behind some bits. -/
def run (p limit : Int) (bs : List Bool) : Int × Int := bs.foldl (next limit) (p, 0)
theorem run_nil (p limit : Int) : run p limit [] = (p, 0) := rfl
theorem run_snoc (p limit : Int) (bs : List Bool) (b : Bool) : run p limit (bs ++ [b]) = next limit (run p limit bs) b := by simp [run]
theorem run_take {p limit : Int} {bs : List Bool} {k : Nat} (h : k < bs.length) : run p limit (bs.take (k + 1)) = next limit (run p limit (bs.take k)) bs[k] := by
  rw [List.take_succ_eq_append_getElem h, run_snoc]
theorem next_ok {limit : Int} {c : Int × Int} {b : Bool} (hl : 1 ≤ limit) (h : 0 ≤ c.1 ∧ c.1 ≤ 65535 ∧ 0 ≤ c.2 ∧ c.2 ≤ limit) :
    0 ≤ (next limit c b).1 ∧ (next limit c b).1 ≤ 65535 ∧ 0 ≤ (next limit c b).2 ∧ (next limit c b).2 ≤ limit := by
  obtain ⟨h1, h2, h3, h4⟩ := h
  have := towards_bounds (p := c.1) (n := c.2) (target := if b then 65535 else 0) h1 h2 h3 (by split <;> omega) (by split <;> omega)
  refine ⟨this.1, this.2, ?_, ?_⟩ <;> simp only [next] <;> omega
theorem run_ok {p limit : Int} (hp : 0 ≤ p) (hp' : p ≤ 65535) (hl : 1 ≤ limit) (bs : List Bool) : 0 ≤ (run p limit bs).1 ∧ (run p limit bs).1 ≤ 65535 ∧ 0 ≤ (run p limit bs).2 ∧ (run p limit bs).2 ≤ limit := by
  have : ∀ (bs : List Bool) (c : Int × Int), (0 ≤ c.1 ∧ c.1 ≤ 65535 ∧ 0 ≤ c.2 ∧ c.2 ≤ limit) → (0 ≤ (bs.foldl (next limit) c).1 ∧ (bs.foldl (next limit) c).1 ≤ 65535 ∧ 0 ≤ (bs.foldl (next limit) c).2 ∧ (bs.foldl (next limit) c).2 ≤ limit) := by
    intro bs
    induction bs with
    | nil => exact fun c h => h
    | cons b bs ih => exact fun c h => ih _ (next_ok hl h)
  exact this bs (p, 0) ⟨hp, hp', by simp, by simp; omega⟩
theorem check_zero {p n limit : Int} (h : 1 ≤ limit ∧ limit ≤ 1023) (h2 : 0 ≤ p ∧ p ≤ 65535 ∧ 0 ≤ n ∧ n ≤ limit) : check p n limit = 0 := by
  unfold check; rw [if_neg (by omega), if_neg (by omega)]
theorem updateV_bit {p n limit : Int} (b : Bool) (h : 1 ≤ limit ∧ limit ≤ 1023) (h2 : 0 ≤ p ∧ p ≤ 65535 ∧ 0 ≤ n ∧ n ≤ limit) :
    updateV p n (if b then 1 else 0) limit = .tuple #[.agg #[.int .i64 (next limit (p, n) b).1, .int .i64 (next limit (p, n) b).2], .int .i64 0] := by
  have he : updateE p n (if b then 1 else 0) limit = 0 := by
    unfold updateE; rw [if_neg (by rw [check_zero h h2]; simp), if_neg (by cases b <;> simp)]
  rw [updateV_ok he]
  cases b <;> rfl
end S08

def Bools (bs : List Bool) : List Value := bs.map Value.bool

set_option maxHeartbeats 400000 in
theorem after08_any (p limit : Int) (a : Option Addr) (bs : List Bool) (cap : Nat) (w : World) (hp : 0 ≤ p) (hp' : p ≤ 65535) (hl : 1 ≤ limit) (hl' : limit ≤ 1023) (hlen : bs.length ≤ 9223372036854775807)
    (hrd : Rd w a (Bools bs)) :
    Calls Try.prog 19 #[.int .u16 p, .slice a bs.length cap, .int .i64 limit] w fun e w' =>
      e = .returned (.tuple #[.agg #[.int .i64 (S08.run p limit bs).1, .int .i64 (S08.run p limit bs).2], .bool true]) ∧ Below w.heap.size w w' := by
  have hnew : S08.newV p = .tuple #[.agg #[.int .i64 p, .int .i64 0], .int .i64 0] := by unfold S08.newV; rw [if_neg (by omega)]
  have Hnew := Lib.hid hnew
  clear hnew
  go_enter Try.func19, Try.ntmps19
  go_wp2_with fail
  refine (new08_any _ _).mono ?_
  rw [Hnew.out]
  rintro e w1 ⟨rfl, hb1⟩
  have hB1 : Below w.heap.size w w1 := below_trans (by go_grown) hb1
  have z1 : w.heap.size ≤ w1.heap.size := hB1.size
  have s01 : w.heap.size < w1.heap.size := by have := hb1.size; simp at this; omega
  have b6 : Blk w1 w.heap.size [.int .i64 0, .int .i64 0] 23 := (Blk.new w _ _).step hb1
  go_wp2
  have b8 : Blk (w1.alloc (Obj.cells #[.int .i64 p, .int .i64 0] 23)) w1.heap.size [.int .i64 p, .int .i64 0] 23 := Blk.new w1 _ _
  have b6' := b6.alloc (Obj.cells #[.int .i64 p, .int .i64 0] 23)
  have hrd1 : Rd w1 a (Bools bs) := hrd.step hB1
  have B6 := Lib.hid b6'
  have B8 := Lib.hid b8
  clear b6 b6' b8
  go_loopw [9, 10] (fun e i wr => ∃ k : Nat, k ≤ bs.length ∧ e = .int .i64 0 ∧ i = .int .i64 k ∧ Blk wr w1.heap.size [.int .i64 (S08.run p limit (bs.take k)).1, .int .i64 (S08.run p limit (bs.take k)).2] 23 ∧
      Blk wr w.heap.size [.int .i64 0, .int .i64 0] 23 ∧ Below w.heap.size w wr)
    (fun _ i _ => bs.length - (intOf i).toNat)
  case atStart => exact ⟨0, by omega, rfl, rfl, B8.out, B6.out, by go_grown⟩
  case round =>
    rename_i wr _ _
    obtain ⟨k, hk, rfl, rfl, b8, b6, hB⟩ := hrel
    have hok := S08.run_ok hp hp' hl (bs.take k)
    have zr : w.heap.size ≤ wr.heap.size := hB.size
    have s8 := b8.lt
    have s6 := b6.lt
    have hne : ¬ w1.heap.size = w.heap.size := by omega
    have hne' : ¬ w.heap.size = w1.heap.size := by omega
    by_cases hlt : k < bs.length
    · have hrun := S08.run_take (p := p) (limit := limit) hlt
      generalize hrk : S08.run p limit (bs.take k) = c at *
      obtain ⟨P, N⟩ := c
      simp only at hok b8 hrun
      have c80 : wr.cell? ⟨w1.heap.size, 0, none⟩ = some (.int .i64 P) := b8.cell 0
      have c81 : wr.cell? ⟨w1.heap.size, 1, none⟩ = some (.int .i64 N) := b8.cell 1
      have B8 := Lib.hid b8
      have B6 := Lib.hid b6
      have Hrun := Lib.hid hrun
      clear hrk b8 b6 hrun
      obtain ⟨b, o, rfl, hcell⟩ := (hrd.step hB).at (i := k) (by simpa [Bools] using hlt)
      have hx : wr.cell? ⟨b, o + k, none⟩ = some (.bool bs[k]) := by have := hcell k (by simpa [Bools] using hlt); simpa [Bools] using this
      clear hcell
      have hup := S08.updateV_bit (p := P) (n := N) (limit := limit) bs[k] ⟨hl, hl'⟩ hok
      cases hbk : bs[k]
      all_goals
        rw [hbk] at hx hup
        simp only [Bool.false_eq_true, if_false, if_true] at hup
        have Hup := Lib.hid hup
        clear hup
        have hbk' := Lib.hid hbk
        clear hbk
        go_wp2_with fail
        refine (update08_any _ _ _ _ _).mono ?_
        rw [Hup.out]
        rintro e w3 ⟨rfl, hb3⟩
        have hB3 := below_trans hB hb3
        have b83 := Lib.hid (B8.out.step hb3)
        have b63 := Lib.hid (B6.out.step hb3)
        have d80 := b83.out.cell 0
        have d81 := b83.out.cell 1
        have f80 := b83.out.free 0
        have f81 := b83.out.free 1
        go_wp2
        go_roundw
        case rel => exact ⟨k + 1, by omega, rfl, by go_num, by rw [Hrun.out, hbk'.out]; exact (b83.out.set 0 _).set 1 _, (b63.out.other _ _ _ hne').other _ _ _ hne', by go_grown⟩
        case measure => simp [intOf]; omega
    · obtain rfl : k = bs.length := by omega
      rw [List.take_length] at b8
      have hok2 := S08.run_ok hp hp' hl bs
      have c80 : wr.cell? ⟨w1.heap.size, 0, none⟩ = some (.int .i64 (S08.run p limit bs).1) := b8.cell 0
      have c81 : wr.cell? ⟨w1.heap.size, 1, none⟩ = some (.int .i64 (S08.run p limit bs).2) := b8.cell 1
      have c60 := b6.cell 0
      have c61 := b6.cell 1
      have f60 := b6.free 0
      have f61 := b6.free 1
      clear b8 b6
      go_wp2
      refine bodyPost_ret (v := .tuple #[.agg #[.int .i64 (S08.run p limit bs).1, .int .i64 (S08.run p limit bs).2], .bool true]) ?_ rfl ⟨rfl, by go_grown⟩
      simp [results, Try.results19, go_sem, c60, c61, hne]

end Go.Proofs.Ytgeebnpnjimcjaa
