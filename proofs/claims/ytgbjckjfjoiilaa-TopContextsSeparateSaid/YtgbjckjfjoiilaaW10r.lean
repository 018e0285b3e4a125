/- What Open (layer 10) returns where it fails or finds the slot. What Open (layer 10) returns where it opens a slot anew. What Open and New (layer 10) return for all arguments; the reference's Size and New. No condition. -/
import Derived.Test.YtgbjckjfjoiilaaW10o
import Derived.Lib.SliceRun
set_option linter.unusedSimpArgs false
set_option linter.unusedVariables false
set_option linter.unusedSectionVars false
namespace Go.Proofs.Ytgbjckjfjoiilaa
open Go.RowKit

def S10.openN (bits : Int) (xs : List Int) (hash : Nat) : Nat := if S10.check bits xs = 0 then ((S10.find bits.toNat xs hash).getD ((S10.least xs (S10.places bits.toNat hash)).getD 0)) else 0
def S10.setMany : List Int → Nat → List Int → List Int
  | xs, _, [] => xs
  | xs, i, y :: ys => S10.setMany (xs.set i y) (i + 1) ys
def S10.fresh (xs : List Int) (n mk : Nat) : List Int := (S10.setMany xs (16 * n) (List.replicate 16 0)).set (16 * n) (mk : Int)
def S10.openX (bits : Int) (xs : List Int) (hash : Nat) : List Int := if S10.check bits xs = 0 then (if (S10.find bits.toNat xs hash).isSome then xs else S10.fresh xs (S10.openN bits xs hash) (S10.mark hash)) else []
def S10.openB (bits : Int) (xs : List Int) : Int := if S10.check bits xs = 0 then bits else 0

set_option maxHeartbeats 1000000 in
theorem open10_bad (bits : Int) (xs : List Int) (hash : Nat) (a : Option Addr) (cap : Nat) (w : World) (hT : Tab xs a cap w) (hc : ¬ S10.check bits xs = 0) :
    Calls Try.prog 23 #[tabV bits xs a cap, .int .u32 (hash : Int)] w fun e w' => e = .returned (.tuple #[.agg #[.int .i64 0, .slice none 0 0], .int .i64 0, .int .i64 (S10.check bits xs)]) ∧ Below w.heap.size w w' := by
  have HC := Lib.hid fun W (h : Tab xs a cap W) => check10_any bits xs h.ok a cap h.cap W h.rd
  unfold tabV
  have hc' : (S10.check bits xs != 0) = true := by simpa using hc
  generalize S10.check bits xs = C at *
  clear hc
  go_enter Try.func23, Try.ntmps23
  go_wp2_with fail
  refine (HC.out _ (hT.step (by go_grown))).mono ?_
  rintro e w1 ⟨rfl, hb1⟩
  have hB1 : Below w.heap.size w w1 := below_trans (by go_grown) hb1
  have z1 : w.heap.size ≤ w1.heap.size := hB1.size
  have hc2 : Blk w1 (w.heap.size + 1) [.int .i64 0, .slice none 0 0] 26 := by
    have h := (Blk.new (w.alloc (.cells #[.int .i64 bits, .slice a xs.length cap] 26)) [.int .i64 0, .slice none 0 0] 26).step hb1
    rwa [World.size_alloc] at h
  have r0 := hc2.cell 0
  have r1 := hc2.cell 1
  have f0 := hc2.free 0
  have f1 := hc2.free 1
  have g := (hc2.set 0 (.int .i64 0)).set 1 (.slice none 0 0)
  have g0 := g.cell 0
  have g1 := g.cell 1
  simp only [List.set_cons_zero, List.set_cons_succ, List.getElem?_cons_zero, List.getElem?_cons_succ] at g0 g1 r0 r1
  clear hc2 g
  go_wp2
  exact bodyPost_ret (v := .tuple #[.agg #[.int .i64 0, .slice none 0 0], .int .i64 0, .int .i64 C]) (by simp [results, Try.results23, go_sem, g0, g1]) rfl ⟨rfl, (hB1.setCell (p := ⟨w.heap.size + 1, 0, none⟩) (by simp) _).setCell (p := ⟨w.heap.size + 1, 1, none⟩) (by simp) _⟩

set_option maxHeartbeats 2000000 in
theorem open10_found (n : Nat) (xs : List Int) (hash i : Nat) (hn : n ≤ 16) (hl : xs.length = 16 * 2 ^ n) (hh : hash < 4294967296) (hc : S10.check (n : Int) xs = 0) (hi : S10.find n xs hash = some i) (b off cap : Nat) (w : World) (hT : Tab xs (some ⟨b, off, none⟩) cap w) (hcs : w.rangeAt b off (Bts xs)) :
    Calls Try.prog 23 #[tabV (n : Int) xs (some ⟨b, off, none⟩) cap, .int .u32 (hash : Int)] w fun e w' => ∃ b cap', e = .returned (.tuple #[tabV (n : Int) xs (some ⟨b, 0, none⟩) cap', .int .i64 (i : Int), .int .i64 0]) ∧ OB w' w.heap.size b cap' xs ∧ Below w.heap.size w w' := by
  have HC := Lib.hid fun W (h : Tab xs (some ⟨b, off, none⟩) cap W) => check10_any (n : Int) xs h.ok (some ⟨b, off, none⟩) cap h.cap W h.rd
  rw [hc] at HC
  have hps := pow_small hn
  have hpp := Nat.two_pow_pos n
  have HCl := Lib.hid fun W (h : Rd W (some ⟨b, off, none⟩) (Bts xs)) => clone10_any (n : Int) xs (some ⟨b, off, none⟩) cap W (by omega) (by omega) h
  have hcap := hT.cap
  have HF := Lib.hid fun W (h : W.rangeAt b off (Bts xs)) => find10_any n hash hn hh xs hl b off cap (by rw [← hl]; exact hcap) W h
  rw [← hl, hi] at HF
  simp only [Option.getD_some, Option.isSome_some] at HF
  clear hc hl hps hpp
  unfold tabV at *
  go_enter Try.func23, Try.ntmps23
  go_wp2_with fail
  refine (HC.out _ (hT.step (by go_grown))).mono ?_
  rintro e w1 ⟨rfl, hb1⟩
  have hB1 : Below w.heap.size w w1 := below_trans (by go_grown) hb1
  have z1 : w.heap.size ≤ w1.heap.size := hB1.size
  have hc1 : Blk w1 w.heap.size [.int .i64 (n : Int), .slice (some ⟨b, off, none⟩) xs.length cap] 26 := ((Blk.new w _ _).alloc _).step hb1
  have hc2 : Blk w1 (w.heap.size + 1) [.int .i64 0, .slice none 0 0] 26 := by
    have h := (Blk.new (w.alloc (.cells #[.int .i64 (n : Int), .slice (some ⟨b, off, none⟩) xs.length cap] 26)) [.int .i64 0, .slice none 0 0] 26).step hb1
    rwa [World.size_alloc] at h
  have k1 := hc1.cell 0
  have k2 := hc1.cell 1
  simp only [List.getElem?_cons_zero, List.getElem?_cons_succ] at k1 k2
  go_wp2_with fail
  refine (HCl.out _ (hT.rd.step hB1)).mono ?_
  rintro e w2 ⟨b2, cap2, rfl, ho2, hb2⟩
  have hB2 := below_trans hB1 hb2
  have z2 := hB2.size
  have hd1 := hc1.step hb2
  have hd2 := hc2.step hb2
  have k3 := hd1.cell 0
  have k4 := hd1.cell 1
  simp only [List.getElem?_cons_zero, List.getElem?_cons_succ] at k3 k4
  have l1 := hd1.lt
  have l2 := hd2.lt
  go_wp2_with fail
  refine (HF.out _ (rangeAt_step (rangeAt_step hcs hB2) ((Below.refl _ w2).alloc (Nat.le_refl _) _))).mono ?_
  rintro e w3 ⟨rfl, hb3⟩
  have hb3' : Below w2.heap.size w2 w3 := below_trans ((Below.refl _ w2).alloc (Nat.le_refl _) _) hb3
  have hB3 := below_trans hB2 hb3'
  have hv3 : Blk w3 w2.heap.size [.int .i64 (n : Int), .slice (some ⟨b2, 0, none⟩) xs.length cap2] 26 := (Blk.new w2 _ _).step hb3
  have he2 := hd2.step hb3'
  have ho3 := ho2.step hb3'
  have q0 := hv3.cell 0
  have q1 := hv3.cell 1
  have r0 := he2.cell 0
  have r1 := he2.cell 1
  have f0 := he2.free 0
  have f1 := he2.free 1
  have g := (he2.set 0 (.int .i64 (n : Int))).set 1 (.slice (some ⟨b2, 0, none⟩) xs.length cap2)
  have g0 := g.cell 0
  have g1 := g.cell 1
  simp only [List.set_cons_zero, List.set_cons_succ, List.getElem?_cons_zero, List.getElem?_cons_succ] at q0 q1 g0 g1 r0 r1
  have zb : w.heap.size + 1 < b2 := by have := hc2.lt; have := ho2.1; omega
  have ho4 := ((ho3.mono (base' := w.heap.size) (by omega)).other (w.heap.size + 1) 0 (.int .i64 (n : Int)) (by omega)).other (w.heap.size + 1) 1 (.slice (some ⟨b2, 0, none⟩) xs.length cap2) (by omega)
  have Ho4 := Lib.hid ho4
  clear ho2 ho3 ho4 g he2 hv3 hd1 hd2 hc1 hc2
  go_wp2
  exact bodyPost_ret (v := .tuple #[.agg #[.int .i64 (n : Int), .slice (some ⟨b2, 0, none⟩) xs.length cap2], .int .i64 (i : Int), .int .i64 0]) (by simp [results, Try.results23, go_sem, g0, g1]) rfl ⟨b2, cap2, rfl, Ho4.out, (hB3.setCell (p := ⟨w.heap.size + 1, 0, none⟩) (by simp) _).setCell (p := ⟨w.heap.size + 1, 1, none⟩) (by simp) _⟩
end Go.Proofs.Ytgbjckjfjoiilaa

namespace Go.Proofs.Ytgbjckjfjoiilaa
open Go.RowKit

theorem setMany_snoc : ∀ (ys xs : List Int) (i : Nat) (y : Int), S10.setMany xs i (ys ++ [y]) = (S10.setMany xs i ys).set (i + ys.length) y
  | [], xs, i, y => rfl
  | z :: ys, xs, i, y => by
    show S10.setMany (xs.set i z) (i + 1) (ys ++ [y]) = (S10.setMany (xs.set i z) (i + 1) ys).set (i + (ys.length + 1)) y
    rw [setMany_snoc ys (xs.set i z) (i + 1) y]
    congr 1; omega
theorem setMany_len : ∀ (ys xs : List Int) (i : Nat), (S10.setMany xs i ys).length = xs.length
  | [], xs, i => rfl
  | z :: ys, xs, i => by
    show (S10.setMany (xs.set i z) (i + 1) ys).length = _
    rw [setMany_len ys, List.length_set]
theorem OB.setCells {base b cap : Nat} : ∀ (ys : List Int) (i : Nat) (w : World) (xs : List Int), OB w base b cap xs → OB (w.setCells b i (Bts ys)) base b cap (S10.setMany xs i ys)
  | [], i, w, xs, h => h
  | y :: ys, i, w, xs, h => OB.setCells ys (i + 1) _ _ (h.set i y)
theorem Below.setCells {B b : Nat} (hb : B ≤ b) : ∀ (vs : List Value) (i : Nat) (A w : World), Below B A w → Below B A (w.setCells b i vs)
  | [], i, A, w, h => h
  | v :: vs, i, A, w, h => Below.setCells hb vs (i + 1) A _ (h.setCell (p := ⟨b, i, none⟩) hb v)
theorem Blk.setCellsOut {c : Nat} {cs : List Value} {t : TypeId} (b : Nat) (hne : ¬ c = b) : ∀ (vs : List Value) (i : Nat) (w : World), Blk w c cs t → Blk (w.setCells b i vs) c cs t
  | [], i, w, h => h
  | v :: vs, i, w, h => Blk.setCellsOut b hne vs (i + 1) _ (h.other b i v hne)
theorem zero10 (w : World) : (zeroValue 5).run Try.prog w = .ok (.int .u8 0) w := by kernel_rfl

set_option maxHeartbeats 2000000 in
theorem open10_new (n : Nat) (xs : List Int) (hash i : Nat) (hn : n ≤ 16) (hl : xs.length = 16 * 2 ^ n) (hh : hash < 4294967296) (hc : S10.check (n : Int) xs = 0) (hi : S10.find n xs hash = none) (hle : S10.least xs (S10.places n hash) = some i) (him : i < 2 ^ n) (b off cap : Nat) (w : World) (hT : Tab xs (some ⟨b, off, none⟩) cap w) (hcs : w.rangeAt b off (Bts xs)) :
    Calls Try.prog 23 #[tabV (n : Int) xs (some ⟨b, off, none⟩) cap, .int .u32 (hash : Int)] w fun e w' => ∃ b cap', e = .returned (.tuple #[tabV (n : Int) xs (some ⟨b, 0, none⟩) cap', .int .i64 (i : Int), .int .i64 0]) ∧ OB w' w.heap.size b cap' (S10.fresh xs i (S10.mark hash)) ∧ Below w.heap.size w w' := by
  have HC := Lib.hid fun W (h : Tab xs (some ⟨b, off, none⟩) cap W) => check10_any (n : Int) xs h.ok (some ⟨b, off, none⟩) cap h.cap W h.rd
  rw [hc] at HC
  have hps := pow_small hn
  have hpp := Nat.two_pow_pos n
  have HCl := Lib.hid fun W (h : Rd W (some ⟨b, off, none⟩) (Bts xs)) => clone10_any (n : Int) xs (some ⟨b, off, none⟩) cap W (by omega) (by omega) h
  have hcap := hT.cap
  have HF := Lib.hid fun W (h : W.rangeAt b off (Bts xs)) => find10_any n hash hn hh xs hl b off cap (by rw [← hl]; exact hcap) W h
  rw [← hl, hi] at HF
  simp only [Option.getD_none, Option.isSome_none] at HF
  have HL := Lib.hid fun Bs Bn B W hcs h1 h2 h3 h4 => least10_any n hash hn hh xs hl hT.ok b off cap (by rw [← hl]; exact hcap) Bs Bn B W hcs h1 h2 h3 h4
  rw [hle] at HL
  simp only [Option.getD_some] at HL
  have HS := Lib.hid fun b2 cap2 (h : xs.length ≤ cap2) V => slot10_any (n : Int) b2 0 i (2 ^ n) cap2 him hps (by omega) V
  rw [← hl] at HS
  have hin : 16 * i + 15 < xs.length := by omega
  have Hin := Lib.hid hin
  have HM := Lib.hid fun V => mark10_any hash hh V
  clear hc hl hps hpp hle hi hin him
  generalize hmk : S10.mark hash = mk at *
  clear hmk
  unfold tabV at *
  go_enter Try.func23, Try.ntmps23
  go_wp2_with fail
  refine (HC.out _ (hT.step (by go_grown))).mono ?_
  rintro e w1 ⟨rfl, hb1⟩
  have hB1 : Below w.heap.size w w1 := below_trans (by go_grown) hb1
  have z1 : w.heap.size ≤ w1.heap.size := hB1.size
  have hc1 : Blk w1 w.heap.size [.int .i64 (n : Int), .slice (some ⟨b, off, none⟩) xs.length cap] 26 := ((Blk.new w _ _).alloc _).step hb1
  have hc2 : Blk w1 (w.heap.size + 1) [.int .i64 0, .slice none 0 0] 26 := by
    have h := (Blk.new (w.alloc (.cells #[.int .i64 (n : Int), .slice (some ⟨b, off, none⟩) xs.length cap] 26)) [.int .i64 0, .slice none 0 0] 26).step hb1
    rwa [World.size_alloc] at h
  have k1 := hc1.cell 0
  have k2 := hc1.cell 1
  simp only [List.getElem?_cons_zero, List.getElem?_cons_succ] at k1 k2
  go_wp2_with fail
  refine (HCl.out _ (hT.rd.step hB1)).mono ?_
  rintro e w2 ⟨b2, cap2, rfl, ho2, hb2⟩
  have hB2 := below_trans hB1 hb2
  have z2 := hB2.size
  have hd1 := hc1.step hb2
  have hd2 := hc2.step hb2
  have k3 := hd1.cell 0
  have k4 := hd1.cell 1
  simp only [List.getElem?_cons_zero, List.getElem?_cons_succ] at k3 k4
  have l1 := hd1.lt
  have l2 := hd2.lt
  go_wp2_with fail
  refine (HF.out _ (rangeAt_step (rangeAt_step hcs hB2) ((Below.refl _ w2).alloc (Nat.le_refl _) _))).mono ?_
  rintro e w3 ⟨rfl, hb3⟩
  have hb3' : Below w2.heap.size w2 w3 := below_trans ((Below.refl _ w2).alloc (Nat.le_refl _) _) hb3
  have hB3 := below_trans hB2 hb3'
  have hv3 : Blk w3 w2.heap.size [.int .i64 (n : Int), .slice (some ⟨b2, 0, none⟩) xs.length cap2] 26 := (Blk.new w2 _ _).step hb3
  have he1 := hd1.step hb3'
  have he2 := hd2.step hb3'
  have ho3 := ho2.step hb3'
  have m1 := he1.cell 0
  simp only [List.getElem?_cons_zero] at m1
  have zb : w.heap.size + 1 < b2 := by have := hc2.lt; have := ho2.1; omega
  have zb2 : b2 < w2.heap.size := ho2.lt
  go_wp2_with fail
  refine (places_any _ _ _).mono ?_
  rintro e w4 ⟨rfl, hw4⟩
  have hb4 : Below w3.heap.size w3 w4 := by rw [hw4]; exact ((Below.refl _ w3).alloc (Nat.le_refl _) _).alloc (by simp) _
  have hB4 := below_trans hB3 hb4
  have p1 : Blk w4 w3.heap.size [.int .i64 (n : Int)] 3 := by rw [hw4]; exact (Blk.new w3 _ _).alloc _
  have p2 : Blk w4 (w3.heap.size + 1) [.int .u32 (hash : Int)] 43 := by rw [hw4]; have h := Blk.new (w3.alloc (Obj.cells #[Value.int IntKind.i64 (n : Int)] 3)) [.int .u32 (hash : Int)] 43; rwa [World.size_alloc] at h
  clear hw4
  have hf1 := he1.step hb4
  have hf2 := he2.step hb4
  have hv4 := hv3.step hb4
  have ho4 := ho3.step hb4
  go_wp2_with fail
  refine (HL.out w3.heap.size (w3.heap.size + 1) w.heap.size w4 (rangeAt_step hcs hB4) (hf1.cell 0) (hf1.cell 1) (p1.cell 0) (p2.cell 0)).mono ?_
  rintro e w5 ⟨rfl, hb5⟩
  have hB5 := below_trans hB4 hb5
  have hv5 := hv4.step hb5
  have hg2 := hf2.step hb5
  have ho5 := ho4.step hb5
  have q0 := hv5.cell 0
  have q1 := hv5.cell 1
  simp only [List.getElem?_cons_zero, List.getElem?_cons_succ] at q0 q1
  go_wp2_with fail
  refine (HS.out b2 cap2 ho2.2.1 _).mono ?_
  rintro e w6 ⟨rfl, hb6⟩
  have hB6 := below_trans hB5 hb6
  have hv6 := hv5.step hb6
  have hh2 := hg2.step hb6
  have ho6 := ho5.step hb6
  have hcl : ∀ ty, (Builtin.clear_ #[24] ty #[.slice (some ⟨b2, 0 + 16 * i, none⟩) 16 16]).run Try.prog w6 = .ok (.tuple #[]) (w6.setCells b2 (0 + 16 * i) (List.replicate 16 (.int .u8 0))) :=
    fun ty => Lib.run_clear_slice w6 24 5 ty (.int .u8 0) Try.underlying24 zero10 rfl rfl b2 (0 + 16 * i) 16 16 (by omega) (fun j hj => by rw [Nat.zero_add, ho6.at (by have := Hin.out; omega)]; rfl) (fun j hj => ho6.free _)
  rw [Nat.zero_add] at *
  obtain ⟨w7, hw7⟩ : ∃ w7, w6.setCells b2 (16 * i) (List.replicate 16 (.int .u8 0)) = w7 := ⟨_, rfl⟩
  rw [hw7] at hcl
  have hB7 : Below w.heap.size w w7 := by rw [← hw7]; exact Below.setCells (by omega) _ _ _ _ hB6
  have hv7 : Blk w7 w2.heap.size [.int .i64 (n : Int), .slice (some ⟨b2, 0, none⟩) xs.length cap2] 26 := by rw [← hw7]; exact Blk.setCellsOut b2 (by omega) _ _ _ hv6
  have hi2 : Blk w7 (w.heap.size + 1) [.int .i64 0, .slice none 0 0] 26 := by rw [← hw7]; exact Blk.setCellsOut b2 (by omega) _ _ _ hh2
  have ho7 : OB w7 w1.heap.size b2 cap2 (S10.setMany xs (16 * i) (List.replicate 16 0)) := by rw [← hw7]; exact OB.setCells (List.replicate 16 0) _ _ _ ho6
  clear hw7
  go_wp2_with fail
  refine (HM.out _).mono ?_
  rintro e w8 ⟨rfl, hb8⟩
  have hB8 := below_trans hB7 hb8
  have hv8 := hv7.step hb8
  have hj2 := hi2.step hb8
  have ho8 := ho7.step hb8
  have p0 := ho8.at (i := 16 * i) (by rw [setMany_len]; have := Hin.out; omega)
  have p1' : w8.frozen? ⟨b2, 16 * i, none⟩ = false := ho8.free _
  have q0 := (hv8.other b2 (16 * i) (.int .u8 (mk : Int)) (by omega)).cell 0
  have q1 := (hv8.other b2 (16 * i) (.int .u8 (mk : Int)) (by omega)).cell 1
  have hk2 := (hj2.other b2 (16 * i) (.int .u8 (mk : Int)) (by omega))
  have r0 := hj2.cell 0
  have r1 := hj2.cell 1
  have f0 := hj2.free 0
  have f1 := hj2.free 1
  have g := (hk2.set 0 (.int .i64 (n : Int))).set 1 (.slice (some ⟨b2, 0, none⟩) xs.length cap2)
  have g0 := g.cell 0
  have g1 := g.cell 1
  simp only [List.set_cons_zero, List.set_cons_succ, List.getElem?_cons_zero, List.getElem?_cons_succ] at q0 q1 g0 g1 r0 r1
  have ho9 := (((ho8.set (16 * i) (mk : Int)).mono (base' := w.heap.size) (by omega)).other (w.heap.size + 1) 0 (.int .i64 (n : Int)) (by omega)).other (w.heap.size + 1) 1 (.slice (some ⟨b2, 0, none⟩) xs.length cap2) (by omega)
  have Ho9 := Lib.hid ho9
  clear ho2 ho3 ho4 ho5 ho6 ho7 ho8 ho9 g hk2 hv3 hv4 hv5 hv6 hv7 hv8 hd1 hd2 hc1 hc2 he1 he2 hf1 hf2 hg2 hh2 hi2 hj2 k1 k2 k3 k4 m1 p1 p2
  go_wp2
  exact bodyPost_ret (v := .tuple #[.agg #[.int .i64 (n : Int), .slice (some ⟨b2, 0, none⟩) xs.length cap2], .int .i64 (i : Int), .int .i64 0]) (by simp [results, Try.results23, go_sem, g0, g1]) rfl ⟨b2, cap2, rfl, Ho9.out, ((hB8.setCell (p := ⟨b2, 16 * i, none⟩) (by simp; omega) _).setCell (p := ⟨w.heap.size + 1, 0, none⟩) (by simp) _).setCell (p := ⟨w.heap.size + 1, 1, none⟩) (by simp) _⟩
end Go.Proofs.Ytgbjckjfjoiilaa

namespace Go.Proofs.Ytgbjckjfjoiilaa
open Go.RowKit

theorem S10.places_ne (bits hash : Nat) : S10.places bits hash ≠ [] := fun h => by
  have h1 : S10.first bits hash ^^^ 0 ∈ S10.places bits hash := by
    unfold S10.places S10.plc
    rw [List.mem_filter]
    exact ⟨List.mem_map.2 ⟨0, by simp, rfl⟩, by simp [S10.first_lt]⟩
  rw [h] at h1
  cases h1
theorem S10.least_ok (xs : List Int) (bits hash : Nat) : ∃ i, S10.least xs (S10.places bits hash) = some i ∧ i < 2 ^ bits ∧ i ∈ S10.places bits hash := by
  obtain ⟨i, hi⟩ := S10.least_some xs (S10.places bits hash) none (S10.places_ne bits hash)
  rcases S10.least_mem xs _ _ _ hi with h | h
  · exact ⟨i, hi, S10.plc_lt h, h⟩
  · cases h
theorem TO.tab {w : World} {base b cap : Nat} {bits : Int} {xs xs' : List Int} (ho : OB w base b cap xs) (hl : xs'.length = xs.length) : TO w base bits xs (tabV bits xs' (some ⟨b, 0, none⟩) cap) := by
  refine .inr ⟨b, cap, ?_, ho⟩
  unfold tabV; rw [hl]

theorem open10_any (bits : Int) (xs : List Int) (hash : Nat) (hh : hash < 4294967296) (a : Option Addr) (cap : Nat) (w : World) (hT : Tab xs a cap w) :
    Calls Try.prog 23 #[tabV bits xs a cap, .int .u32 (hash : Int)] w fun e w' => ∃ V, e = .returned (.tuple #[V, .int .i64 (S10.openN bits xs hash : Int), .int .i64 (S10.check bits xs)]) ∧ TO w' w.heap.size (S10.openB bits xs) (S10.openX bits xs hash) V ∧ Below w.heap.size w w' := by
  by_cases hc : S10.check bits xs = 0
  · have e1 : S10.openB bits xs = bits := if_pos hc
    have e2 : S10.openN bits xs hash = ((S10.find bits.toNat xs hash).getD ((S10.least xs (S10.places bits.toNat hash)).getD 0)) := if_pos hc
    have e3 : S10.openX bits xs hash = (if (S10.find bits.toNat xs hash).isSome then xs else S10.fresh xs (S10.openN bits xs hash) (S10.mark hash)) := if_pos hc
    rw [e3, e2, e1, hc]
    obtain ⟨n, rfl, hn, hl, _⟩ := S10.correct hc
    obtain ⟨b, off, rfl, hcs⟩ := hT.rd (fun e => by have h1 := congrArg List.length e; rw [Bts_length, hl] at h1; have h2 := Nat.two_pow_pos n; simp only [List.length_nil] at h1; omega)
    rw [Int.toNat_natCast]
    cases hi : S10.find n xs hash with
    | some i =>
      refine (open10_found n xs hash i hn hl hh hc hi b off cap w hT hcs).mono ?_
      rintro e w' ⟨b', cap', rfl, ho, hb⟩
      exact ⟨_, rfl, TO.tab ho rfl, hb⟩
    | none =>
      obtain ⟨i, hle, him, _⟩ := S10.least_ok xs n hash
      refine (open10_new n xs hash i hn hl hh hc hi hle him b off cap w hT hcs).mono ?_
      rintro e w' ⟨b', cap', rfl, ho, hb⟩
      rw [hle]
      simp only [Option.getD_none, Option.getD_some, Option.isSome_none, Bool.false_eq_true, if_false]
      exact ⟨_, rfl, TO.tab ho (by unfold S10.fresh; rw [List.length_set, setMany_len]), hb⟩
  · have e1 : S10.openB bits xs = 0 := if_neg hc
    have e2 : S10.openN bits xs hash = 0 := if_neg hc
    have e3 : S10.openX bits xs hash = [] := if_neg hc
    rw [e3, e2, e1]
    refine (open10_bad bits xs hash a cap w hT hc).mono ?_
    rintro e w' ⟨rfl, hb⟩
    exact ⟨_, rfl, TO.nil _ _, hb⟩

def S10.newE (bits : Int) : Int := if 0 ≤ bits ∧ bits ≤ 16 then 0 else 2
def S10.newB (bits : Int) : Int := if 0 ≤ bits ∧ bits ≤ 16 then bits else 0
def S10.newX (bits : Int) : List Int := if 0 ≤ bits ∧ bits ≤ 16 then List.replicate (16 * 2 ^ bits.toNat) 0 else []

theorem elems_byt : Elems Try.prog 24 5 1 1 [.int .u8 0] := elems_bytes
theorem OB.made (w : World) (n : Nat) (hn : n ≤ 9223372036854775807) : OB (w.alloc (.cells (List.replicate n (Value.int .u8 0)).toArray 5)) w.heap.size w.heap.size n (List.replicate n 0) := by
  refine ⟨Nat.le_refl _, by simp, hn, _, Blk.new w _ _, ?_⟩
  rw [List.length_replicate, List.take_of_length_le (by simp)]
  unfold Bts
  rw [List.map_replicate]

set_option maxHeartbeats 1000000 in
theorem new10_any (bits : Int) (w : World) : Calls Try.prog 13 #[.int .i64 bits] w fun e w' => ∃ V, e = .returned (.tuple #[V, .int .i64 (S10.newE bits)]) ∧ TO w' w.heap.size (S10.newB bits) (S10.newX bits) V ∧ Below w.heap.size w w' := by
  have W1 := Lib.hid fun W => within10_any bits 0 16 W
  by_cases h : 0 ≤ bits ∧ bits ≤ 16
  · have e1 : S10.newE bits = 0 := if_pos h
    have e2 : S10.newB bits = bits := if_pos h
    have e3 : S10.newX bits = List.replicate (16 * 2 ^ bits.toNat) 0 := if_pos h
    rw [e1, e2, e3]
    rw [decide_eq_true h] at W1
    obtain ⟨n, rfl⟩ := Int.eq_ofNat_of_zero_le h.1
    have hn : n ≤ 16 := by omega
    have hps := pow_small hn
    have ew := wrap_pow16 hn
    rw [Int.toNat_natCast]
    clear h e1 e2 e3
    generalize 2 ^ n = m at *
    go_enter Try.func13, Try.ntmps13
    go_wp2_with fail
    refine (W1.out _).mono ?_
    rintro e w1 ⟨rfl, hb1⟩
    have hB1 : Below w.heap.size w w1 := below_trans (by go_grown) hb1
    have z1 : w.heap.size ≤ w1.heap.size := hB1.size
    have hc2 : Blk w1 w.heap.size [.int .i64 0, .slice none 0 0] 26 := (Blk.new w _ _).step hb1
    have l1 := hc2.lt
    have r0 := hc2.cell 0
    have r1 := hc2.cell 1
    have f0 := hc2.free 0
    have f1 := hc2.free 1
    simp only [List.getElem?_cons_zero, List.getElem?_cons_succ] at r0 r1
    have ho := OB.made w1 (16 * m) (by omega)
    have hb2 : Below w1.heap.size w1 (w1.alloc (.cells (List.replicate (16 * m) (Value.int .u8 0)).toArray 5)) := (Below.refl _ w1).alloc (Nat.le_refl _) _
    obtain ⟨w2, hw2⟩ : ∃ w2, w1.alloc (.cells (List.replicate (16 * m) (Value.int .u8 0)).toArray 5) = w2 := ⟨_, rfl⟩
    rw [hw2] at ho hb2
    have hB2 := below_trans hB1 hb2
    have hd2 := hc2.step hb2
    have r2 := hd2.cell 0
    have r3 := hd2.cell 1
    have f2 := hd2.free 0
    have f3 := hd2.free 1
    have g := (hd2.set 0 (.int .i64 (n : Int))).set 1 (.slice (some ⟨w1.heap.size, 0, none⟩) (16 * m) (16 * m))
    have g0 := g.cell 0
    have g1 := g.cell 1
    simp only [List.set_cons_zero, List.set_cons_succ, List.getElem?_cons_zero, List.getElem?_cons_succ] at r2 r3 g0 g1
    have ho2 := ((ho.mono (base' := w.heap.size) z1).other w.heap.size 0 (.int .i64 (n : Int)) (by omega)).other w.heap.size 1 (.slice (some ⟨w1.heap.size, 0, none⟩) (16 * m) (16 * m)) (by omega)
    have hV : TO ((w2.setCell ⟨w.heap.size, 0, none⟩ (.int .i64 (n : Int))).setCell ⟨w.heap.size, 1, none⟩ (.slice (some ⟨w1.heap.size, 0, none⟩) (16 * m) (16 * m))) w.heap.size (n : Int) (List.replicate (16 * m) 0) (.agg #[.int .i64 (n : Int), .slice (some ⟨w1.heap.size, 0, none⟩) (16 * m) (16 * m)]) :=
      .inr ⟨_, _, by unfold tabV; rw [List.length_replicate], ho2⟩
    have HV := Lib.hid hV
    clear hV ho ho2 g hd2 hc2
    go_wp2_with (at_make; refine wpList_value rfl (op_make1 (.tmp 10) 24 5 1 (.int .u8 0) elems_bytes rfl .i64 (16 * m) (by show Value.int .i64 (wrap64 _) = _; rw [ew]; simp) (by omega) (by unfold maxLen; omega)) ?_; rw [hw2]; clear hw2)
    exact bodyPost_ret (v := .tuple #[.agg #[.int .i64 (n : Int), .slice (some ⟨w1.heap.size, 0, none⟩) (16 * m) (16 * m)], .int .i64 0]) (by simp [results, Try.results13, go_sem, g0, g1]) rfl ⟨_, rfl, HV.out, (hB2.setCell (p := ⟨w.heap.size, 0, none⟩) (by simp) _).setCell (p := ⟨w.heap.size, 1, none⟩) (by simp) _⟩
  · have e1 : S10.newE bits = 2 := if_neg h
    have e2 : S10.newB bits = 0 := if_neg h
    have e3 : S10.newX bits = [] := if_neg h
    rw [e1, e2, e3]
    rw [decide_eq_false h] at W1
    clear h e1 e2 e3
    go_enter Try.func13, Try.ntmps13
    go_wp2_with fail
    refine (W1.out _).mono ?_
    rintro e w1 ⟨rfl, hb1⟩
    have hB1 : Below w.heap.size w w1 := below_trans (by go_grown) hb1
    have z1 : w.heap.size ≤ w1.heap.size := hB1.size
    have hc2 : Blk w1 w.heap.size [.int .i64 0, .slice none 0 0] 26 := (Blk.new w _ _).step hb1
    have r0 := hc2.cell 0
    have r1 := hc2.cell 1
    have f0 := hc2.free 0
    have f1 := hc2.free 1
    have g := (hc2.set 0 (.int .i64 0)).set 1 (.slice none 0 0)
    have g0 := g.cell 0
    have g1 := g.cell 1
    simp only [List.set_cons_zero, List.set_cons_succ, List.getElem?_cons_zero, List.getElem?_cons_succ] at g0 g1 r0 r1
    clear hc2 g
    go_wp2
    exact bodyPost_ret (v := .tuple #[.agg #[.int .i64 0, .slice none 0 0], .int .i64 2]) (by simp [results, Try.results13, go_sem, g0, g1]) rfl ⟨_, rfl, TO.nil _ _, (hB1.setCell (p := ⟨w.heap.size, 0, none⟩) (by simp) _).setCell (p := ⟨w.heap.size, 1, none⟩) (by simp) _⟩

theorem size10_any (n : Nat) (hn : n ≤ 60) (w : World) : Calls Try.prog 42 #[.int .i64 (n : Int)] w fun e w' => e = .returned (.int .i64 ((2 ^ n : Nat) : Int)) ∧ Below w.heap.size w w' := by
  obtain ⟨p, hp⟩ : ∃ p : Nat → Nat, p = fun k => 2 ^ k := ⟨_, rfl⟩
  have e0 : p 0 = 1 := by rw [hp]
  have en : 2 ^ n = p n := by rw [hp]
  have es : ∀ k, p (k + 1) = 2 * p k := fun k => by rw [hp]; show 2 ^ (k + 1) = 2 * 2 ^ k; rw [Nat.pow_succ]; omega
  have eb : ∀ k, k ≤ 60 → p k ≤ 1152921504606846976 := fun k hk => by rw [hp]; exact Nat.pow_le_pow_right (n := 2) (by omega) hk
  rw [en]
  have E0 := Lib.hid e0
  have Es := Lib.hid es
  have Eb := Lib.hid eb
  clear hp en e0 es eb
  go_enter Try.func42, Try.ntmps42
  go_wp2
  go_loopw [3, 4] (fun t i wr => ∃ k : Nat, k ≤ n ∧ t = .int .i64 (p k : Int) ∧ i = .int .i64 (k : Int) ∧ Below w.heap.size w wr)
    (fun _ i _ => n - (intOf i).toNat)
  case atStart => exact ⟨0, by omega, by rw [E0.out]; rfl, rfl, Below.refl _ _⟩
  case round =>
    obtain ⟨k, hk, rfl, rfl, hB⟩ := hrel
    by_cases hlt : k < n
    · have e1 := Es.out k
      have e2 := Eb.out k (by omega)
      generalize p k = m at *
      generalize hpk : p (k + 1) = m' at *
      have Hpk := Lib.hid hpk
      have Hb := Lib.hid e1
      have e3 : wrap64 (2 * (m : Int)) = 2 * (m : Int) := IntWalk.wrap64_in _ ⟨by omega, by omega⟩
      clear hpk e1
      go_wp2
      go_roundw
      case rel => exact ⟨k + 1, by omega, by rw [Hpk.out, Hb.out]; simp, by simp, hB⟩
      case measure => simp [intOf]; omega
    · obtain rfl : k = n := by omega
      go_wp2
      go_returns
      exact ⟨rfl, hB⟩
end Go.Proofs.Ytgbjckjfjoiilaa
