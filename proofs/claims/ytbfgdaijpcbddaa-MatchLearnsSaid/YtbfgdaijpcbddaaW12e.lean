/- Small functions of layer 12: within, expected, and lists looked through. The expected bit (layer 12). No condition. -/
import Derived.Test.YtbfgdaijpcbddaaW12c
import Derived.Test.YtbfgdaijpcbddaaW08t
import Derived.Deep.Slices
set_option linter.unusedSimpArgs false
set_option linter.unusedVariables false
set_option linter.unusedSectionVars false
namespace Go.Proofs.Ytbfgdaijpcbddaa
open Go.RowKit

def Ints (xs : List Int) : List Value := xs.map (Value.int .i64)
theorem Ints_length (xs : List Int) : (Ints xs).length = xs.length := by simp [Ints]
def Cts (l : List (Int × Int)) : List Value := l.flatMap fun c => [.int .i64 c.1, .int .i64 c.2]
theorem Cts_nil : Cts [] = [] := rfl
theorem Cts_cons (c : Int × Int) (l : List (Int × Int)) : Cts (c :: l) = .int .i64 c.1 :: .int .i64 c.2 :: Cts l := rfl
theorem Cts_length (l : List (Int × Int)) : (Cts l).length = l.length * 2 := by
  induction l with
  | nil => rfl
  | cons c l ih => rw [Cts_cons]; simp [ih]; omega
theorem Cts_at : ∀ {l : List (Int × Int)} {i : Nat} (hi : i < l.length), (Cts l)[i * 2]? = some (.int .i64 (l[i]).1) ∧ (Cts l)[i * 2 + 1]? = some (.int .i64 (l[i]).2)
  | c :: l, 0, _ => ⟨rfl, rfl⟩
  | c :: l, i + 1, hi => by
    have := Cts_at (l := l) (i := i) (by simpa using hi)
    rw [Cts_cons, show (i + 1) * 2 = i * 2 + 1 + 1 by omega]
    simpa using this

theorem any_take_succ {α : Type} (f : α → Bool) (xs : List α) (k : Nat) (h : k < xs.length) : (xs.take (k + 1)).any f = ((xs.take k).any f || f xs[k]) := by
  rw [List.take_succ_eq_append_getElem h, List.any_append, List.any_cons, List.any_nil, Bool.or_false]
theorem any_of_at {α : Type} (f : α → Bool) (xs : List α) (k : Nat) (h : k < xs.length) (ht : f xs[k] = true) : xs.any f = true := by
  rw [List.any_eq_true]
  exact ⟨_, List.getElem_mem h, ht⟩

set_option maxHeartbeats 400000 in
theorem indexInts12_any (F : FuncId) (hF : ∀ args w, (callFunc F args).run Try.prog w = .ok (.enter F args) w) (c : Value) (test : Int → Bool) (w : World) (xs : List Int)
    (hv : ∀ x W, x ∈ xs → Below w.heap.size w W → Calls Try.prog F #[.int .i64 x, c] W fun e w' => e = .returned (.bool (test x)) ∧ Below W.heap.size W w') (a : Option Addr) (cap : Nat) (hlen : xs.length ≤ 9223372036854775807) (hrd : Rd w a (Ints xs)) :
    Calls Try.prog 60 #[.slice a xs.length cap, .func (.func F) #[] #[c]] w fun e w' => ∃ r : Int, e = .returned (.int .i64 r) ∧ decide (0 ≤ r) = xs.any test ∧ Below w.heap.size w w' := by
  have Hv := Lib.hid hv
  clear hv
  go_enter Try.func60, Try.ntmps60
  go_wp2
  go_loopw [8] (fun i wr => ∃ k : Nat, k ≤ xs.length ∧ i = .int .i64 k ∧ (xs.take k).any test = false ∧ Below w.heap.size w wr) (fun i _ => xs.length - (intOf i).toNat)
  case atStart => exact ⟨0, by omega, rfl, rfl, Below.refl _ _⟩
  case round =>
    obtain ⟨k, hk, rfl, hno, hB⟩ := hrel
    have zr : w.heap.size ≤ wr.heap.size := hB.size
    have Hno := Lib.hid hno
    clear hno
    by_cases hlt : k < xs.length
    · obtain ⟨g, o, rfl, hcs⟩ := (hrd.step hB).at (i := k) (by rw [Ints_length]; exact hlt)
      have hc : wr.cell? ⟨g, o + k, none⟩ = some (.int .i64 xs[k]) := by rw [hcs k (by rw [Ints_length]; exact hlt)]; simp [Ints]
      have HT := Lib.hid (Hv.out xs[k] wr (List.getElem_mem hlt) hB)
      have Hs := Lib.hid (any_take_succ test xs k hlt)
      have Ha := Lib.hid (any_of_at test xs k hlt)
      obtain ⟨x, hx⟩ : ∃ x, xs[k] = x := ⟨_, rfl⟩
      rw [hx] at hc HT Hs Ha
      clear hcs hx
      cases ht : test x with
      | true =>
        have Hany := Lib.hid (Ha.out ht)
        rw [ht] at HT
        clear ht
        go_wp2_with fail
        refine HT.out.mono ?_
        rintro e w1 ⟨rfl, hb1⟩
        have hB1 := below_trans hB hb1
        go_wp2
        go_returns
        exact ⟨_, rfl, by rw [Hany.out]; simp, hB1⟩
      | false =>
        have Hn := Lib.hid (show (xs.take (k + 1)).any test = false by rw [Hs.out, Hno.out, ht]; rfl)
        rw [ht] at HT
        clear ht
        go_wp2_with fail
        refine HT.out.mono ?_
        rintro e w1 ⟨rfl, hb1⟩
        have hB1 := below_trans hB hb1
        go_wp2
        go_roundw
        case rel => exact ⟨k + 1, by omega, by go_num, Hn.out, hB1⟩
        case measure => simp [intOf]; omega
    · obtain rfl : k = xs.length := by omega
      go_wp2
      go_returns
      refine ⟨_, rfl, ?_, hB⟩
      have := Hno.out
      rw [List.take_length] at this
      rw [this]; rfl

set_option maxHeartbeats 400000 in
theorem containsInts12_any (F : FuncId) (hF : ∀ args w, (callFunc F args).run Try.prog w = .ok (.enter F args) w) (c : Value) (test : Int → Bool) (w : World) (xs : List Int)
    (hv : ∀ x W, x ∈ xs → Below w.heap.size w W → Calls Try.prog F #[.int .i64 x, c] W fun e w' => e = .returned (.bool (test x)) ∧ Below W.heap.size W w') (a : Option Addr) (cap : Nat) (hlen : xs.length ≤ 9223372036854775807) (hrd : Rd w a (Ints xs)) :
    Calls Try.prog 45 #[.slice a xs.length cap, .func (.func F) #[] #[c]] w fun e w' => e = .returned (.bool (xs.any test)) ∧ Below w.heap.size w w' := by
  have HI := Lib.hid (indexInts12_any F hF c test w xs hv a cap hlen hrd)
  clear hv
  obtain ⟨b, hb⟩ : ∃ b, xs.any test = b := ⟨_, rfl⟩
  rw [hb] at HI ⊢
  clear hb
  go_enter Try.func45, Try.ntmps45
  go_wp2_with fail
  refine HI.out.mono ?_
  rintro e w1 ⟨r, rfl, hr, hb1⟩
  go_wp2
  go_returns
  exact ⟨by first | rfl | exact ret_bool hr, hb1⟩

set_option maxHeartbeats 400000 in
theorem indexCts12_any (F : FuncId) (hF : ∀ args w, (callFunc F args).run Try.prog w = .ok (.enter F args) w) (test : Int × Int → Bool) (w : World) (xs : List (Int × Int))
    (hv : ∀ x W, Calls Try.prog F #[.agg #[.int .i64 x.1, .int .i64 x.2]] W fun e w' => e = .returned (.bool (test x)) ∧ Below W.heap.size W w') (a : Option Addr) (cap : Nat) (hlen : xs.length ≤ 100000) (hrd : Rd w a (Cts xs)) :
    Calls Try.prog 61 #[.slice a xs.length cap, .func (.func F) #[] #[]] w fun e w' => ∃ r : Int, e = .returned (.int .i64 r) ∧ decide (0 ≤ r) = xs.any test ∧ Below w.heap.size w w' := by
  have Hv := Lib.hid hv
  clear hv
  go_enter Try.func61, Try.ntmps61
  go_wp2
  go_loopw [8] (fun i wr => ∃ k : Nat, k ≤ xs.length ∧ i = .int .i64 k ∧ (xs.take k).any test = false ∧ Below w.heap.size w wr) (fun i _ => xs.length - (intOf i).toNat)
  case atStart => exact ⟨0, by omega, rfl, rfl, Below.refl _ _⟩
  case round =>
    obtain ⟨k, hk, rfl, hno, hB⟩ := hrel
    have zr : w.heap.size ≤ wr.heap.size := hB.size
    have Hno := Lib.hid hno
    clear hno
    by_cases hlt : k < xs.length
    · obtain ⟨g, o, rfl, hcs⟩ := (hrd.step hB) (fun e => by have := congrArg List.length e; rw [Cts_length] at this; simp at this; omega)
      have hc0 := hcs (k * 2) _ (Cts_at hlt).1
      have hc1 := hcs (k * 2 + 1) _ (Cts_at hlt).2
      have HT := Lib.hid (Hv.out xs[k] wr)
      have Hs := Lib.hid (any_take_succ test xs k hlt)
      have Ha := Lib.hid (any_of_at test xs k hlt)
      obtain ⟨x, hx⟩ : ∃ x, xs[k] = x := ⟨_, rfl⟩
      rw [hx] at hc0 hc1 HT Hs Ha
      clear hcs hx
      obtain ⟨x0, x1⟩ := x
      simp only at hc0 hc1 HT
      rw [← Nat.add_assoc] at hc1
      cases ht : test (x0, x1) with
      | true =>
        have Hany := Lib.hid (Ha.out ht)
        rw [ht] at HT
        clear ht
        go_wp2_with fail
        refine HT.out.mono ?_
        rintro e w1 ⟨rfl, hb1⟩
        have hB1 := below_trans hB hb1
        go_wp2
        go_returns
        exact ⟨_, rfl, by rw [Hany.out]; simp, hB1⟩
      | false =>
        have Hn := Lib.hid (show (xs.take (k + 1)).any test = false by rw [Hs.out, Hno.out, ht]; rfl)
        rw [ht] at HT
        clear ht
        go_wp2_with fail
        refine HT.out.mono ?_
        rintro e w1 ⟨rfl, hb1⟩
        have hB1 := below_trans hB hb1
        go_wp2
        go_roundw
        case rel => exact ⟨k + 1, by omega, by go_num, Hn.out, hB1⟩
        case measure => simp [intOf]; omega
    · obtain rfl : k = xs.length := by omega
      go_wp2
      go_returns
      refine ⟨_, rfl, ?_, hB⟩
      have := Hno.out
      rw [List.take_length] at this
      rw [this]; rfl

set_option maxHeartbeats 400000 in
theorem containsCts12_any (F : FuncId) (hF : ∀ args w, (callFunc F args).run Try.prog w = .ok (.enter F args) w) (test : Int × Int → Bool) (w : World) (xs : List (Int × Int))
    (hv : ∀ x W, Calls Try.prog F #[.agg #[.int .i64 x.1, .int .i64 x.2]] W fun e w' => e = .returned (.bool (test x)) ∧ Below W.heap.size W w') (a : Option Addr) (cap : Nat) (hlen : xs.length ≤ 100000) (hrd : Rd w a (Cts xs)) :
    Calls Try.prog 46 #[.slice a xs.length cap, .func (.func F) #[] #[]] w fun e w' => e = .returned (.bool (xs.any test)) ∧ Below w.heap.size w w' := by
  have HI := Lib.hid (indexCts12_any F hF test w xs hv a cap hlen hrd)
  clear hv
  obtain ⟨b, hb⟩ : ∃ b, xs.any test = b := ⟨_, rfl⟩
  rw [hb] at HI ⊢
  clear hb
  go_enter Try.func46, Try.ntmps46
  go_wp2_with fail
  refine HI.out.mono ?_
  rintro e w1 ⟨r, rfl, hr, hb1⟩
  go_wp2
  go_returns
  exact ⟨by first | rfl | exact ret_bool hr, hb1⟩

theorem within12_any (n lo hi : Int) (w : World) :
    Calls Try.prog 28 #[.int .i64 n, .int .i64 lo, .int .i64 hi] w fun e w' => e = .returned (.bool (decide (lo ≤ n ∧ n ≤ hi))) ∧ Below w.heap.size w w' := by
  go_enter Try.func28, Try.ntmps28
  go_wp2
  all_goals (go_returns; exact ⟨ret_bool (by first | (simp; done) | (simp; omega)), by go_grown⟩)

theorem bad12_any (p n : Int) (w : World) :
    Calls Try.prog 43 #[.agg #[.int .i64 p, .int .i64 n]] w fun e w' => e = .returned (.bool (S08.check p n 255 != 0)) ∧ Below w.heap.size w w' := by
  have HC := Lib.hid fun W => check08_any p n 255 W
  obtain ⟨r, hr⟩ : ∃ r, S08.check p n 255 = r := ⟨_, rfl⟩
  rw [hr] at HC ⊢
  clear hr
  go_enter Try.func43, Try.ntmps43
  go_wp2_with fail
  refine (HC.out _).mono ?_
  rintro e w1 ⟨rfl, hb1⟩
  have hB1 : Below w.heap.size w w1 := below_trans (by go_grown) hb1
  go_wp2
  go_returns
  exact ⟨rfl, hB1⟩

theorem far12_any (n L : Nat) (x : Int) (b : Nat) (a : Option Addr) (cap : Nat) (w : World) (hc : w.cell? ⟨b, 3, none⟩ = some (.slice a L cap)) :
    Calls Try.prog 42 #[.int .i64 x, .pointer (some ⟨b, 0, none⟩)] w fun e w' => e = .returned (.bool (!decide (0 ≤ x ∧ x ≤ (L : Int)))) ∧ Below w.heap.size w w' := by
  have HW := Lib.hid fun W => within12_any x 0 (L : Int) W
  obtain ⟨r, hr⟩ : ∃ r, decide (0 ≤ x ∧ x ≤ (L : Int)) = r := ⟨_, rfl⟩
  rw [hr] at HW ⊢
  clear hr
  go_enter Try.func42, Try.ntmps42
  go_wp2_with fail
  refine (HW.out _).mono ?_
  rintro e w1 ⟨rfl, hb1⟩
  go_wp2
  go_returns
  exact ⟨rfl, hb1⟩
end Go.Proofs.Ytbfgdaijpcbddaa

namespace Go.Proofs.Ytbfgdaijpcbddaa
open Go.RowKit

theorem wrap_i64_nat {a : Nat} (h : a < 9223372036854775808) : IntKind.i64.wrap (a : Int) = (a : Int) := by
  simp only [IntKind.wrap, IntKind.bits, IntKind.signed]
  simp
  omega
theorem bits_or_256 {x : Nat} (hx : x < 256) : bits .or .i64 256 (x : Int) = ((256 + x : Nat) : Int) := by
  have h1 : (BitVec.ofInt 64 (256 : Int)).toNat = 256 := by decide
  have h2 : (BitVec.ofInt 64 (x : Int)).toNat = x := by
    rw [BitVec.ofInt_natCast, BitVec.toNat_ofNat]; exact Nat.mod_eq_of_lt (by omega)
  show IntKind.i64.wrap ((BitVec.ofInt 64 (256 : Int) ||| BitVec.ofInt 64 (x : Int)).toNat : Int) = _
  have h := Nat.two_pow_add_eq_or_of_lt (b := x) (i := 8) (by omega) 1
  rw [BitVec.toNat_or, h1, h2, show (256 ||| x) = 256 + x from h.symm, wrap_i64_nat (by omega)]
theorem bits_and_1 (x : Nat) (hx : x < 9223372036854775808) : bits .and .i64 (x : Int) 1 = ((x % 2 : Nat) : Int) := by
  have h1 : (BitVec.ofInt 64 (1 : Int)).toNat = 1 := by decide
  have h2 : (BitVec.ofInt 64 (x : Int)).toNat = x := by
    rw [BitVec.ofInt_natCast, BitVec.toNat_ofNat]; exact Nat.mod_eq_of_lt (by omega)
  show IntKind.i64.wrap ((BitVec.ofInt 64 (x : Int) &&& BitVec.ofInt 64 (1 : Int)).toNat : Int) = _
  rw [BitVec.toNat_and, h1, h2, Nat.and_one_is_mod, wrap_i64_nat (by omega)]

def S12.optN (o : Option Nat) : Int := match o with | some b => (b : Int) | none => 2
theorem S12.expI_eq (x pt : Int) : S12.expI x pt = S12.optN (S12.exp x.toNat pt) := rfl

set_option maxHeartbeats 400000 in
theorem expected12_any (x : Nat) (hx : x < 256) (pt : Int) (w : World) :
    Calls Try.prog 38 #[.int .u8 (x : Int), .int .i64 pt] w fun e w' => e = .returned (.tuple #[.int .i64 (S12.optN (S12.exp x pt)), .bool (S12.exp x pt).isSome]) ∧ Below w.heap.size w w' := by
  have hor := bits_or_256 hx
  have HE := Lib.hid (show S12.exp x pt = S12.expFrom x pt 8 from rfl)
  obtain ⟨E, hE⟩ : ∃ E, S12.exp x pt = E := ⟨_, rfl⟩
  rw [hE] at HE ⊢
  clear hE
  obtain ⟨EN, hEN⟩ : ∃ EN, S12.optN E = EN := ⟨_, rfl⟩
  rw [hEN]
  have HEN := Lib.hid hEN
  clear hEN
  go_enter Try.func38, Try.ntmps38
  go_wp2_with fail
  go_loopw [7] (fun rest wr => ∃ k : Nat, k ≤ 8 ∧ rest = .int .i64 ((k : Int) - 1) ∧ E = S12.expFrom x pt k ∧ Below w.heap.size w wr) (fun rest _ => (intOf rest + 1).toNat)
  case atStart => exact ⟨8, by omega, rfl, HE.out, by go_grown⟩
  case round =>
    obtain ⟨k, hk, rfl, he, hB⟩ := hrel
    cases k with
    | zero =>
      have hE0 : E = none := he
      subst hE0
      have hEN2 : EN = 2 := HEN.out.symm
      subst hEN2
      clear he
      go_wp2
      go_returns
      exact ⟨rfl, hB⟩
    | succ k =>
      have hkk : (((k + 1 : Nat) : Int) - 1) = (k : Int) := by omega
      rw [hkk]
      have hd : ∀ q : Nat, (((256 + x) / 2 ^ q : Nat) : Int) = (256 + (x : Int)) / 2 ^ q := fun q => by
        rw [Int.natCast_ediv, Int.natCast_pow, Int.natCast_add]; rfl
      have hlt : (256 + x) / 2 ^ k < 9223372036854775808 := Nat.lt_of_le_of_lt (Nat.div_le_self _ _) (by omega)
      have hand : bits .and .i64 ((256 + (x : Int)) / 2 ^ k) 1 = ((((256 + x) / 2 ^ k) % 2 : Nat) : Int) := by rw [← hd, bits_and_1 _ hlt]
      unfold S12.expFrom at he
      rw [hd] at he
      by_cases hc : (256 + (x : Int)) / 2 ^ (k + 1) = pt
      · rw [if_pos hc] at he
        have hb : ((256 + (x : Int)) / 2 ^ (k + 1) == pt) = true := by simp [hc]
        subst he
        have hEN : EN = ((((256 + x) / 2 ^ k) % 2 : Nat) : Int) := HEN.out.symm
        obtain ⟨r, hr⟩ : ∃ r : Nat, ((256 + x) / 2 ^ k) % 2 = r := ⟨_, rfl⟩
        rw [hr] at hand hEN
        subst hEN
        clear hd hlt hc hr
        go_wp2
        go_returns
        exact ⟨rfl, hB⟩
      · rw [if_neg hc] at he
        have hb : ((256 + (x : Int)) / 2 ^ (k + 1) == pt) = false := by simp [hc]
        have He := Lib.hid he
        clear hd hlt hc he hand
        go_wp2
        go_roundw
        case rel => exact ⟨k, by omega, rfl, He.out, hB⟩
        case measure => simp [intOf]; try omega
end Go.Proofs.Ytbfgdaijpcbddaa
