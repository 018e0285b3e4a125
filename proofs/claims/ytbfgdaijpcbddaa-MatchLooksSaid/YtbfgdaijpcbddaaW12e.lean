/- The expected bit (layer 12). No condition. -/
import Derived.Test.YtbfgdaijpcbddaaW12d
set_option linter.unusedSimpArgs false
set_option linter.unusedVariables false
set_option linter.unusedSectionVars false
namespace Go.Proofs.Ytbfgdaijpcbddaa
open Go.RowKit

theorem wrap_i64_nat {a : Nat} (h : a < 9223372036854775808) : IntKind.i64.wrap (a : Int) = (a : Int) := by
  simp only [IntKind.wrap, IntKind.bits, IntKind.signed]
  simp
  omega
theorem bits_or_256 {x : Nat} (hx : x < 256) : bits .or .i64 256 (x : Int) = ((256 + x : Nat) : Int) := by
  have h1 : (BitVec.ofInt 64 (256 : Int)).toNat = 256 := by decide
  have h2 : (BitVec.ofInt 64 (x : Int)).toNat = x := by
    rw [BitVec.ofInt_natCast, BitVec.toNat_ofNat]; exact Nat.mod_eq_of_lt (by omega)
  show IntKind.i64.wrap ((BitVec.ofInt 64 (256 : Int) ||| BitVec.ofInt 64 (x : Int)).toNat : Int) = _
  have h := Nat.two_pow_add_eq_or_of_lt (b := x) (i := 8) (by omega) 1
  rw [BitVec.toNat_or, h1, h2, show (256 ||| x) = 256 + x from h.symm, wrap_i64_nat (by omega)]
theorem bits_and_1 (x : Nat) (hx : x < 9223372036854775808) : bits .and .i64 (x : Int) 1 = ((x % 2 : Nat) : Int) := by
  have h1 : (BitVec.ofInt 64 (1 : Int)).toNat = 1 := by decide
  have h2 : (BitVec.ofInt 64 (x : Int)).toNat = x := by
    rw [BitVec.ofInt_natCast, BitVec.toNat_ofNat]; exact Nat.mod_eq_of_lt (by omega)
  show IntKind.i64.wrap ((BitVec.ofInt 64 (x : Int) &&& BitVec.ofInt 64 (1 : Int)).toNat : Int) = _
  rw [BitVec.toNat_and, h1, h2, Nat.and_one_is_mod, wrap_i64_nat (by omega)]

def S12.optN (o : Option Nat) : Int := match o with | some b => (b : Int) | none => 2
theorem S12.expI_eq (x pt : Int) : S12.expI x pt = S12.optN (S12.exp x.toNat pt) := rfl

set_option maxHeartbeats 400000 in
theorem expected12_any (x : Nat) (hx : x < 256) (pt : Int) (w : World) :
    Calls Try.prog 38 #[.int .u8 (x : Int), .int .i64 pt] w fun e w' => e = .returned (.tuple #[.int .i64 (S12.optN (S12.exp x pt)), .bool (S12.exp x pt).isSome]) ∧ Below w.heap.size w w' := by
  have hor := bits_or_256 hx
  have HE := Lib.hid (show S12.exp x pt = S12.expFrom x pt 8 from rfl)
  obtain ⟨E, hE⟩ : ∃ E, S12.exp x pt = E := ⟨_, rfl⟩
  rw [hE] at HE ⊢
  clear hE
  obtain ⟨EN, hEN⟩ : ∃ EN, S12.optN E = EN := ⟨_, rfl⟩
  rw [hEN]
  have HEN := Lib.hid hEN
  clear hEN
  go_enter Try.func38, Try.ntmps38
  go_wp2_with fail
  go_loopw [7] (fun rest wr => ∃ k : Nat, k ≤ 8 ∧ rest = .int .i64 ((k : Int) - 1) ∧ E = S12.expFrom x pt k ∧ Below w.heap.size w wr) (fun rest _ => (intOf rest + 1).toNat)
  case atStart => exact ⟨8, by omega, rfl, HE.out, by go_grown⟩
  case round =>
    obtain ⟨k, hk, rfl, he, hB⟩ := hrel
    cases k with
    | zero =>
      have hE0 : E = none := he
      subst hE0
      have hEN2 : EN = 2 := HEN.out.symm
      subst hEN2
      clear he
      go_wp2
      go_returns
      exact ⟨rfl, hB⟩
    | succ k =>
      have hkk : (((k + 1 : Nat) : Int) - 1) = (k : Int) := by omega
      rw [hkk]
      have hd : ∀ q : Nat, (((256 + x) / 2 ^ q : Nat) : Int) = (256 + (x : Int)) / 2 ^ q := fun q => by
        rw [Int.natCast_ediv, Int.natCast_pow, Int.natCast_add]; rfl
      have hlt : (256 + x) / 2 ^ k < 9223372036854775808 := Nat.lt_of_le_of_lt (Nat.div_le_self _ _) (by omega)
      have hand : bits .and .i64 ((256 + (x : Int)) / 2 ^ k) 1 = ((((256 + x) / 2 ^ k) % 2 : Nat) : Int) := by rw [← hd, bits_and_1 _ hlt]
      unfold S12.expFrom at he
      rw [hd] at he
      by_cases hc : (256 + (x : Int)) / 2 ^ (k + 1) = pt
      · rw [if_pos hc] at he
        have hb : ((256 + (x : Int)) / 2 ^ (k + 1) == pt) = true := by simp [hc]
        subst he
        have hEN : EN = ((((256 + x) / 2 ^ k) % 2 : Nat) : Int) := HEN.out.symm
        obtain ⟨r, hr⟩ : ∃ r : Nat, ((256 + x) / 2 ^ k) % 2 = r := ⟨_, rfl⟩
        rw [hr] at hand hEN
        subst hEN
        clear hd hlt hc hr
        go_wp2
        go_returns
        exact ⟨rfl, hB⟩
      · rw [if_neg hc] at he
        have hb : ((256 + (x : Int)) / 2 ^ (k + 1) == pt) = false := by simp [hc]
        have He := Lib.hid he
        clear hd hlt hc he hand
        go_wp2
        go_roundw
        case rel => exact ⟨k, by omega, rfl, He.out, hB⟩
        case measure => simp [intOf]; try omega
end Go.Proofs.Ytbfgdaijpcbddaa
