/- TopLinksSuffixes walked. No condition. -/
import Derived.Test.YtalidjgniebohaaW17i
set_option linter.unusedSimpArgs false
set_option linter.unusedVariables false
set_option linter.unusedSectionVars false
namespace Go.Proofs.Ytalidjgniebohaa
open Go.RowKit Go.Shelf

theorem S17.Sorted.unique {b : List Int} {p q : List Nat} (h : S17.Sorted b p) (k : S17.Sorted b q) : p = q :=
  List.Perm.eq_of_pairwise (le := fun x y => S17.lt (b.drop x) (b.drop y) = true) (fun x y _ _ h1 h2 => by have := S17.asymm h1; rw [h2] at this; cases this) h.2 k.2 (h.1.trans k.1.symm)

theorem S17.lower_of (l : List Int) (x : Int) (hx : 0 ≤ x) : (S17.lower l x.toNat : Int) = (l.countP (fun y => decide (y < x)) : Int) := by
  unfold S17.lower
  have : ((x.toNat : Nat) : Int) = x := by omega
  rw [this]
theorem S17.tally_of (l : List Int) (x : Int) (hx : 0 ≤ x) : (S17.tally l x.toNat : Int) = (l.countP (fun y => decide (y = x)) : Int) := by
  unfold S17.tally
  have : ((x.toNat : Nat) : Int) = x := by omega
  rw [this]

/-- The statement's plain law. -/
theorem S17.main {b : List Int} {n : Nat} (hn : b.length = n) (hb : ∀ x ∈ b, 0 ≤ x ∧ x < 256) {pl : List Nat} (hs : S17.Sorted b pl) {prim : Nat} (hpr : prim ≤ n) (h0 : pl.getD prim 0 = 0) {rk ll : List Int} (hr : S17.RanksOf n pl rk) (hl : S17.LinkOf (S17.out b pl) prim n ll) :
    ∀ row, row ≤ n → ll.getD row 0 = if 0 < pl.getD row 0 then rk.getD (pl.getD row 0 - 1) 0 else 0 := by
  intro row hrow
  have hp := hs.1
  rw [hn] at hp
  have hpl := hp.len
  have hq : ∀ i, i ≤ n → pl[i]? = some (pl.getD i 0) := fun i hi => by
    rw [List.getD_eq_getElem?_getD, List.getElem?_eq_getElem (by omega)]; rfl
  by_cases hz : 0 < pl.getD row 0
  · rw [if_pos hz]
    obtain ⟨p, hpe⟩ : ∃ p, pl.getD row 0 = p + 1 := ⟨pl.getD row 0 - 1, by omega⟩
    have hpn := hp.le hrow
    rw [hpe, Nat.add_sub_cancel]
    obtain ⟨k, hk, hke⟩ := hp.find (p := p) (by omega)
    have h1 := hr.2 k hk
    rw [hke] at h1
    rw [h1]
    have hrow' := hq row hrow
    rw [hpe] at hrow'
    have hk' := hq k hk
    rw [hke] at hk'
    have h0' := hq prim hpr
    rw [h0] at h0'
    have h2 := S17.link hs (by omega) hrow' hk'
    obtain ⟨h3, h4⟩ := S17.out_at (b := b) hp hrow' h0'
    have hne : prim ≠ row := fun e => by rw [e, hpe] at h0; omega
    obtain ⟨i, hi⟩ : ∃ i, (if prim < row then row - 1 else row) = i := ⟨_, rfl⟩
    rw [hi] at h3 h4
    have hil : i < n := by
      have := (List.getElem?_eq_some_iff.1 h3).1
      rwa [S17.out_len hp] at this
    have hri : S17.row prim i = row := by
      unfold S17.row
      split at hi <;> split <;> omega
    have h5 := hl.at' i hil
    have hgi : (S17.out b pl).getD i 0 = b.getD p 0 := by rw [List.getD_eq_getElem?_getD, h3]; rfl
    have hb0 : 0 ≤ b.getD p 0 := by
      rw [List.getD_eq_getElem?_getD, List.getElem?_eq_getElem (by omega)]; exact (hb _ (List.getElem_mem (by omega))).1
    rw [hri, hgi, h4, S17.lower_of _ _ hb0, S17.tally_of _ _ hb0] at h5
    rw [h5, h2]; push_cast; rfl
  · rw [if_neg hz]
    have : row = prim := hp.inj hrow hpr (by omega)
    rw [this]; exact hl.prim

set_option maxRecDepth 100000 in
set_option maxHeartbeats 4000000 in
theorem topLinks_any (b : List Int) (n : Nat) (hnb : b.length = n) (hb : ∀ x ∈ b, 0 ≤ x ∧ x < 256) (a : Option Addr) (cap : Nat) (w : World) (hrd : Rd w a (Bts b)) :
    Calls Try.prog 3 #[.slice a n cap] w fun e w' => e = .returned (.bool true) ∧ Below w.heap.size w w' := by
  by_cases hn : n ≤ 150
  · have hz : ¬ (150 : Int) < (n : Int) := by omega
    have HSO := Lib.hid (by have := sort17_any b (by omega) hb a cap w hrd; rwa [hnb] at this)
    have HRK := Lib.hid fun (pl : List Nat) (hp : S17.Perm n pl) (P : Nat) (W : World) (h : Blk W P (Nats pl) 3) => ranks17_any n hn pl hp P (n + 1) W h
    have HFW := Lib.hid fun (W : World) (hW : Below w.heap.size w W) => forward17_any b n hnb hn hb a cap W (hrd.step hW)
    have HLK := Lib.hid fun (pl : List Nat) (hs : S17.Sorted b pl) (prim : Nat) (hp : prim ≤ n) (a' : Option Addr) (c' : Nat) (W : World) (h : Rd W a' (Bts (S17.out b pl))) =>
      Links17_any (S17.out b pl) n (S17.out_len (hnb ▸ hs.1)) hn (S17.out_bytes hnb hb (hnb ▸ hs.1)) a' c' prim hp W h
    have HM := Lib.hid fun (pl : List Nat) (hs : S17.Sorted b pl) (prim : Nat) (hpr : prim ≤ n) (h0 : pl.getD prim 0 = 0) (rk ll : List Int) (hr : S17.RanksOf n pl rk) (hl : S17.LinkOf (S17.out b pl) prim n ll) => S17.main hnb hb hs hpr h0 hr hl
    have Hnb := Lib.hid hnb
    clear hb hrd hnb
    go_enter Try.func3, Try.ntmps3
    go_wp2_with fail
    refine HSO.out.mono ?_
    rintro e w1 ⟨P, pl, rfl, hP, bP, hso, hB1⟩
    have hpe := hso.1
    rw [Hnb.out] at hpe
    have HPe := Lib.hid hpe
    have HSo := Lib.hid hso
    clear hpe hso
    go_wp2_with fail
    refine (HRK.out pl HPe.out P w1 bP).mono ?_
    rintro e w2 ⟨R, rfl, hR, ⟨rk, bR, hrk⟩, hb2⟩
    have hB2 := below_trans hB1 hb2
    have bP2 := bP.step hb2
    have Hrk := Lib.hid hrk
    have hz1 := hB1.size
    clear bP hrk hb2
    go_wp2_with fail
    refine (HFW.out w2 hB2).mono ?_
    rintro e w3 ⟨a3, c3, pl3, prim, rfl, hpr, hp0, hso3, hrd3, hb3⟩
    obtain rfl : pl3 = pl := S17.Sorted.unique hso3 HSo.out
    have hB3 := below_trans hB2 hb3
    have bP3 := bP2.step hb3
    have bR3 := bR.step hb3
    have Hp0 := Lib.hid hp0
    clear bP2 bR hb3 hso3 hp0
    have HL := Lib.hid (HLK.out pl3 HSo.out prim hpr a3 c3 w3 hrd3)
    clear hrd3
    go_wp2_with fail
    refine HL.out.mono ?_
    rintro e w4 ⟨L, rfl, hL, ⟨ll, bL, hll⟩, hb4⟩
    have hB4 := below_trans hB3 hb4
    have bP4 := bP3.step hb4
    have bR4 := bR3.step hb4
    have HMM := Lib.hid (HM.out pl3 HSo.out prim hpr Hp0.out rk ll Hrk.out hll)
    have Hll := Lib.hid hll.len
    rw [S17.out_len HPe.out] at Hll
    have hrl := Lib.hid Hrk.out.1
    clear bP3 bR3 hb4 hll HL
    go_wp2_with fail
    go_loopw [78] (fun v W => ∃ k : Nat, k ≤ n + 1 ∧ v = .int .i64 (k : Int) ∧ W = w4) (fun v _ => n + 1 - (intOf v).toNat)
    case atStart => exact ⟨0, by omega, rfl, rfl⟩
    case round =>
      obtain ⟨k, hk, rfl, rfl⟩ := hrel
      by_cases hlt : k < n + 1
      · have hkz : (k : Int) < (n : Int) + 1 := by omega
        have hkz2 : k < n + 1 := hlt
        have cP := Nats_cell bP4 HPe.out (i := k) (by omega)
        have hple := HPe.out.le (i := k) (by omega)
        have cL := Ints_at bL (i := k) (by have := Hll.out; omega)
        have hrow := HMM.out k (by omega)
        obtain ⟨q, hq⟩ : ∃ q, pl3.getD k 0 = q := ⟨_, rfl⟩
        rw [hq] at cP hple hrow
        rw [hrow] at cL
        clear hq hrow
        by_cases hq0 : 0 < q
        · obtain ⟨p, rfl⟩ : ∃ p, q = p + 1 := ⟨q - 1, by omega⟩
          rw [if_pos hq0, Nat.add_sub_cancel] at cL
          have cR := Ints_at bR4 (i := p) (by have := hrl.out; omega)
          obtain ⟨y, hy⟩ : ∃ y, rk.getD p 0 = y := ⟨_, rfl⟩
          rw [hy] at cL cR
          clear hy
          have hqz : (0 : Int) < ((p + 1 : Nat) : Int) := by omega
          have hqn : ((p + 1 : Nat) : Int) ≤ (n : Int) := by omega
          have hqw : IntKind.i64.wrap (((p + 1 : Nat) : Int) - 1) = (p : Int) := by rw [IntWalk.i64_in _ (by omega)]; omega
          have hpz : (p : Int) < (n : Int) + 1 := by omega
          have hpz2 : p < n + 1 := by omega
          have hyy : (y != y) = false := by simp
          obtain ⟨QQ, hQQ⟩ : ∃ Q, ((p + 1 : Nat) : Int) = Q := ⟨_, rfl⟩
          rw [hQQ] at hqz hqw hqn cP
          clear hQQ
          go_wp2
          go_roundw
          case rel => exact ⟨k + 1, by omega, by simp, trivial⟩
          case measure => simp [intOf]; omega
        · obtain rfl : q = 0 := by omega
          rw [if_neg hq0] at cL
          go_wp2
          go_roundw
          case rel => exact ⟨k + 1, by omega, by simp, trivial⟩
          case measure => simp [intOf]; omega
      · obtain rfl : k = n + 1 := by omega
        have hkn2 : ¬ (((n + 1 : Nat) : Int) < (n : Int) + 1) := by omega
        go_wp2
        go_returns
        exact ⟨rfl, hB4⟩
  · have hz : (150 : Int) < (n : Int) := by omega
    go_enter Try.func3, Try.ntmps3
    go_wp2
    go_returns
    exact ⟨rfl, Below.refl _ _⟩
end Go.Proofs.Ytalidjgniebohaa
