/- The law TopContextsSeparate: what has been seen in a slot, and what a visit leaves. No condition. -/
import Derived.Test.YtgbjckjfjoiilaaW10ah
import Derived.Maps.OwnSet
set_option linter.unusedSimpArgs false
set_option linter.unusedVariables false
set_option linter.unusedSectionVars false
namespace Go.Proofs.Ytgbjckjfjoiilaa
open Go.RowKit Go.Maps

/-- The state of the history of some bits. -/
def S10.sta (bs : List Nat) : Int := bs.foldl (fun s (b : Nat) => S09.next s (b : Int)) 0
theorem S10.sta_nil : S10.sta [] = 0 := rfl
theorem S10.sta_snoc (bs : List Nat) (b : Nat) : S10.sta (bs ++ [b]) = S09.next (S10.sta bs) (b : Int) := by unfold S10.sta; rw [List.foldl_append]; rfl
theorem S10.sta_range (bs : List Nat) (h : ∀ b ∈ bs, b < 2) : 0 ≤ S10.sta bs ∧ S10.sta bs < 215 := by
  have key : ∀ (bs : List Nat) (s : Int), (0 ≤ s ∧ s < 215) → (∀ b ∈ bs, b < 2) → 0 ≤ bs.foldl (fun s (b : Nat) => S09.next s (b : Int)) s ∧ bs.foldl (fun s (b : Nat) => S09.next s (b : Int)) s < 215 := fun bs => by
    induction bs with
    | nil => exact fun s hs _ => hs
    | cons b bs ih => exact fun s hs hb => ih _ (S09.next_range hs (hb b List.mem_cons_self)) (fun c hc => hb c (List.mem_cons_of_mem _ hc))
  exact key bs 0 (by omega) h
theorem Nts_get {xs : List Nat} {i : Nat} (hi : i < xs.length) : (Nts xs)[i]? = some (.int .i64 ((xs[i] : Nat) : Int)) := by
  unfold Nts; rw [List.getElem?_map, List.getElem?_eq_getElem hi]; rfl

set_option maxHeartbeats 1000000 in
theorem tryState10_any (bs : List Nat) (hb : ∀ b ∈ bs, b < 2) (a : Option Addr) (cap : Nat) (hlen : bs.length ≤ 4611686018427387904) (w : World) (hrd : Rd w a (Nts bs)) :
    Calls Try.prog 40 #[.slice a bs.length cap] w fun e w' => e = .returned (.tuple #[.int .i64 (S10.sta bs), .bool true]) ∧ Below w.heap.size w w' := by
  have Hn := Lib.hid fun (s : Int) (hs : 0 ≤ s ∧ s < 215) (b : Nat) (hb : b < 2) W => (show Calls Try.prog 41 #[.int .i64 s, .int .i64 (b : Int)] W fun e w' => e = .returned (.tuple #[.int .i64 (S09.next s b), .int .i64 0]) ∧ Below W.heap.size W w' by
    have hx := S09.nextS_ok hs hb
    have h := next09_any s (b : Int) W
    rw [hx.1, hx.2] at h
    exact h)
  have Hr := Lib.hid fun k => S10.sta_range (bs.take k) (fun b h => hb b (List.mem_of_mem_take h))
  have Hs := Lib.hid fun k (hk : k < bs.length) => (show S10.sta (bs.take (k + 1)) = S09.next (S10.sta (bs.take k)) ((bs[k]'hk : Nat) : Int) by rw [List.take_succ_eq_append_getElem hk, S10.sta_snoc])
  have Hb := Lib.hid fun k (hk : k < bs.length) => hb (bs[k]'hk) (List.getElem_mem hk)
  have Hx := Lib.hid fun k (hk : k < bs.length) => Nts_get hk
  have H0 := Lib.hid (show S10.sta (bs.take 0) = 0 from rfl)
  have Hf := Lib.hid (show S10.sta (bs.take bs.length) = S10.sta bs by rw [List.take_length])
  clear hb
  go_enter Try.func40, Try.ntmps40
  go_wp2
  go_loopw [4, 5, 6] (fun s e i wr => ∃ k : Nat, k ≤ bs.length ∧ i = .int .i64 (k : Int) ∧ s = .int .i64 (S10.sta (bs.take k)) ∧ e = .int .i64 0 ∧ Below w.heap.size w wr)
    (fun _ _ i _ => bs.length - (intOf i).toNat)
  case atStart => exact ⟨0, by omega, rfl, by rw [H0.out], rfl, by go_grown⟩
  case round =>
    obtain ⟨k, hk, rfl, rfl, rfl, hB⟩ := hrel
    by_cases hlt : k < bs.length
    · obtain ⟨g, o, rfl, hcs⟩ := (hrd.step hB).at (i := k) (by rw [Nts_length]; exact hlt)
      have hc : wr.cell? ⟨g, o + k, none⟩ = some (.int .i64 ((bs[k] : Nat) : Int)) := by
        rw [hcs k (by rw [Nts_length]; exact hlt), ← Hx.out k hlt, List.getElem?_eq_getElem]
      have HN := Lib.hid fun W => Hn.out _ (Hr.out k) (bs[k]'hlt) (Hb.out k hlt) W
      have hs := Hs.out k hlt
      obtain ⟨b, hb⟩ : ∃ b, bs[k]'hlt = b := ⟨_, rfl⟩
      rw [hb] at HN hc hs
      obtain ⟨s, hs0⟩ : ∃ s, S10.sta (bs.take k) = s := ⟨_, rfl⟩
      rw [hs0] at HN hs ⊢
      have HS := Lib.hid hs
      clear hcs hs0 hs hb
      go_wp2_with fail
      refine (HN.out _).mono ?_
      rintro e w1 ⟨rfl, hb1⟩
      have hB1 := below_trans hB hb1
      go_wp2
      go_roundw
      case rel => exact ⟨k + 1, by omega, by go_num, by rw [HS.out], rfl, hB1⟩
      case measure => simp [intOf]; omega
    · obtain rfl : k = bs.length := by omega
      rw [Hf.out]
      go_wp2
      go_returns
      exact ⟨rfl, hB⟩
end Go.Proofs.Ytgbjckjfjoiilaa
