/- A part of the proof that ends in L14b (Cx14, Cf14, Cg14, Fd14, Cn14). No condition. -/
import Derived.Test.YtieeogndnhighaaGreatZL14abe
set_option linter.unusedSimpArgs false
set_option linter.unusedVariables false
set_option linter.unusedSectionVars false
namespace Go.Proofs.YtieeogndnhighaaGreat
open Go.RowKit

set_option maxRecDepth 100000 in
set_option maxHeartbeats 8000000 in
theorem contexts14_good (N N2 : S14.N) (L : NLay) (l : List Nat) (a : Option Addr) (cap : Nat) (w : World) (hN : NIs N L w) (HR : RightHolds N L w) (h0 : S14.checkNet N = 0) (h1 : N.part = 1) (hl : l.length = 16) (hlx : ∀ x ∈ l, x < 4294967296) (hrd : Rd w a (U32s l))
    (HOp : OpenHolds w ⟨N.comps, N.parts, l, 1⟩ N2) :
    Calls Tryz.prog 27 #[NV N L, .slice a 16 cap] w fun e w' => ∃ L', e = .returned (.tuple #[NV N2 L', .int .i64 0]) ∧ NIs N2 L' w' ∧ Below w.heap.size w w' := by
  obtain ⟨hck, hpl, hxl, _, _, _⟩ := S14.checkNet_zero h0
  obtain ⟨hl0, hl16, _⟩ := S14.check_zero hck
  obtain ⟨W1, hW1⟩ : ∃ W1, (w.alloc (.cells (NVals N L).toArray 26)).alloc (.cells zN 26) = W1 := ⟨_, rfl⟩
  have k1 : Blk W1 w.heap.size (NVals N L) 26 := by rw [← hW1]; exact (Blk.new w _ _).alloc _
  have r1 : Blk W1 (w.heap.size + 1) [.slice none 0 0, .slice none 0 0, .slice none 0 0, .int .i64 0] 26 := by
    rw [← hW1]
    have h := Blk.new (w.alloc (.cells (NVals N L).toArray 26)) [.slice none 0 0, .slice none 0 0, .slice none 0 0, .int .i64 0] 26
    rwa [World.size_alloc] at h
  have B1 : Below w.heap.size w W1 := by rw [← hW1]; exact ((Below.refl _ _).alloc (Nat.le_refl _) _).alloc (by simp) _
  have HC := Lib.hid (checkNet14_any N L W1 (hN.step B1) (by omega) (fun k c p y h1 h2 h3 h4 W hW => HR k c p y h1 h2 h3 h4 W (below_trans B1 hW)))
  rw [h0] at HC
  have HCp := Lib.hid fun (W : World) (hW : Below w.heap.size w W) => copied14_any N L W (hN.step hW) ⟨hl0, hl16⟩ hpl hxl
  obtain ⟨gl, ol, rfl, _⟩ := hrd (fun e => by have h := congrArg List.length e; rw [U32s_length, List.length_nil] at h; omega)
  have HCl := Lib.hid fun (W : World) (hW : Below w.heap.size w W) => cloneU32s14 (U32s l) 16 (by rw [U32s_length, hl]) (U32s_one l) gl ol cap W (by decide) (by decide) (hrd.step hW)
  have HN := Lib.hid hN
  have HO := Lib.hid HOp
  have Hlx := Lib.hid hlx
  have Hl := Lib.hid hl
  unfold zN at hW1
  clear HR h0 hck HOp hlx hl hrd
  unfold NV NVals at HC HCp
  unfold NVals at k1 hW1
  unfold NV NVals
  obtain ⟨nc, hnc⟩ : ∃ n, N.comps.length = n := ⟨_, rfl⟩
  obtain ⟨np, hnp⟩ : ∃ n, N.parts.length = n := ⟨_, rfl⟩
  obtain ⟨nx, hnx⟩ : ∃ n, N.ctxs.length = n := ⟨_, rfl⟩
  rw [hnc, hnp, hnx, h1] at HC HCp k1 hW1
  rw [hnp, hnc] at hpl
  rw [hnx] at hxl
  rw [hnc] at hl0 hl16
  rw [hnc, hnp, hnx, h1]
  have Hnc := Lib.hid hnc
  have Hnp := Lib.hid hnp
  have Hpt := Lib.hid h1
  clear hnc hnp hnx h1 hN
  subst hpl
  subst hxl
  go_enter Tryz.func27, Tryz.ntmps27
  go_wp2_with (first
    | (rw [hW1])
    | (refine wpList_loadB 26 (.tmp 2) (by rfl) (by rfl) w.heap.size (by rfl) [.slice L.a1 np L.c1, .slice L.a2 np L.c2, .slice L.a3 16 L.c3, .int .i64 1] 26 k1 _ Tryz.underlying26 rfl info_N ?_))
  refine HC.out.mono ?_
  rintro e w2 ⟨rfl, hb2⟩
  have k2 := k1.step hb2
  have r2 := r1.step hb2
  have B2 := below_trans B1 hb2
  clear k1 r1 hW1 B1 hb2 HC
  have cp := k2.cell 3
  simp only [List.getElem?_cons_zero, List.getElem?_cons_succ] at cp
  go_wp2_with (first
    | (refine wpList_loadB 26 (.tmp 2) (by rfl) (by rfl) w.heap.size (by rfl) [.slice L.a1 np L.c1, .slice L.a2 np L.c2, .slice L.a3 16 L.c3, .int .i64 1] 26 k2 _ Tryz.underlying26 rfl info_N ?_))
  refine (HCp.out _ B2).mono ?_
  rintro e w4 ⟨a1, c1, a2, c2, a3, c3, rfl, own1, own2, own3, hb4⟩
  have B4 := below_trans B2 hb4
  have r4 := r2.step hb4
  obtain ⟨D, hD⟩ : ∃ D, w2.heap.size = D := ⟨_, rfl⟩
  have hwD : w.heap.size + 1 < D := by rw [← hD]; exact r2.lt
  rw [hD] at own1 own2 own3
  unfold OwnP at own2
  rw [Hnp.out] at own2
  obtain ⟨NB, hNB⟩ : ∃ NB, w4.heap.size = NB := ⟨_, rfl⟩
  have hb4s := hb4.size
  clear k2 r2 hb4 HCp B2 cp own3
  have hDN : D ≤ NB := by rw [← hD, ← hNB]; exact hb4s
  obtain ⟨W5, hW5⟩ : ∃ W5, w4.alloc (.cells #[.slice none 0 0, .slice none 0 0, .slice none 0 0, .int .i64 0] 26) = W5 := ⟨_, rfl⟩
  have hb5 : Below w4.heap.size w4 W5 := by rw [← hW5]; exact (Below.refl _ _).alloc (Nat.le_refl _) _
  have EN : Blk W5 NB [.slice none 0 0, .slice none 0 0, .slice none 0 0, .int .i64 0] 26 := by rw [← hW5, ← hNB]; exact Blk.new w4 _ _
  obtain ⟨gC, rfl, hC1, hC2, hC3, hC4⟩ := owns_addr14 own1 hl0
  obtain ⟨g2, rfl, hP1, hP2, hP3, hP4⟩ := owns_addr14 own2 hl0
  rw [hNB] at hC2 hP2
  have hneCP : gC ≠ g2 := owns_apart14 own1 own2 (by decide)
  go_wp2_with (first
    | (rw [hW5, hNB])
    | (rw [hW5])
    | (refine wpList_storeB 26 (.tmp 7) (.tmp 25) (by rfl) (by rfl) NB (by rfl) [.slice (some ⟨gC, 0, none⟩) np c1, .slice (some ⟨g2, 0, none⟩) np c2, .slice a3 16 c3, .int .i64 1] (by rfl) _ 26 EN info_N rfl (by simp [Value.oneCell']) ?_
       intro wL EL gL sL))
  have hXN : KepX (fun k => k = NB) w4 wL := (KepX.below hb5).trans (KepX.row gL (fun b e => .inl (Option.some.inj e).symm))
  have BL : Below w.heap.size w wL := hXN.toBelow B4 (fun k e => by have e : k = NB := e; omega)
  have rL := r4.kepX hXN (show ¬ _ = NB by omega)
  have own1L := owns_kepX own1 hXN (fun g e => by have e : some gC = some g := e; cases e; show ¬ _ = NB; omega)
  have own2L := owns_kepX own2 hXN (fun g e => by have e : some g2 = some g := e; cases e; show ¬ _ = NB; omega)
  clear own1 own2 r4 B4 gL sL EN hb5 hXN hW5
  refine (HCl.out _ BL).mono ?_
  rintro e w6 ⟨bX, cX, rfl, ownX, hb6⟩
  have B6 := below_trans BL hb6
  have E6 := EL.step hb6
  have r6 := rL.step hb6
  have own16 := owns_step (B := 0) own1L hb6
  have own26 := owns_step (B := 0) own2L hb6
  have hzL : NB < wL.heap.size := EL.lt
  clear own1L own2L EL rL BL hb6 HCl
  obtain ⟨gX, rfl, hX1, hX2, hX3, hX4⟩ := owns_addr14 ownX (by decide)
  have f2 := E6.cell 2
  have f2f := E6.free 2
  have nB := E6.set 2 (.slice (some ⟨gX, 0, none⟩) 16 cX)
  have rB := r6.other NB 2 (.slice (some ⟨gX, 0, none⟩) 16 cX) (by omega)
  have hkA : KepX (fun b => b = NB) w6 (w6.setCell ⟨NB, 2, none⟩ (.slice (some ⟨gX, 0, none⟩) 16 cX)) := KepX.row (grown_set14 w6 NB 2 (.slice (some ⟨gX, 0, none⟩) 16 cX)) (fun b e => .inl (Option.some.inj e).symm)
  simp only [List.set_cons_zero, List.set_cons_succ, List.getElem?_cons_zero, List.getElem?_cons_succ] at f2 nB
  obtain ⟨w7, hw7⟩ : ∃ W, w6.setCell ⟨NB, 2, none⟩ (.slice (some ⟨gX, 0, none⟩) 16 cX) = W := ⟨_, rfl⟩
  rw [hw7] at nB rB hkA
  have B7 : Below w.heap.size w w7 := hkA.toBelow B6 (fun k e => by have e : k = NB := e; omega)
  have own17 := owns_kepX own16 hkA (fun g e => by have e : some gC = some g := e; cases e; show ¬ _ = NB; omega)
  have own27 := owns_kepX own26 hkA (fun g e => by have e : some g2 = some g := e; cases e; show ¬ _ = NB; omega)
  have ownX7 := owns_kepX ownX hkA (fun g e => by have e : some gX = some g := e; cases e; show ¬ _ = NB; omega)
  have hz7 := nB.lt
  have hs7 : w6.heap.size ≤ w7.heap.size := hkA.size
  have hz6 : wL.heap.size ≤ w6.heap.size := by omega
  have HNI : ∀ W2, KepX (fun b => b = w.heap.size + 1 ∨ b = NB) w7 W2 → NIs ⟨N.comps, N.parts, l, 1⟩ ⟨some ⟨gC, 0, none⟩, c1, some ⟨g2, 0, none⟩, c2, some ⟨gX, 0, none⟩, cX, L.ys⟩ W2 := fun W2 hk =>
    { rc := (Rd.of_owns own17).kepX hk (fun g o e => by cases e; show ¬ (_ = _ ∨ _ = _); omega)
      rp := (Rd.of_owns own27).kepX hk (fun g o e => by cases e; show ¬ (_ = _ ∨ _ = _); omega)
      rx := (Rd.of_owns ownX7).kepX hk (fun g o e => by cases e; show ¬ (_ = _ ∨ _ = _); omega)
      ly := HN.out.ly
      ps := fun j p y h1 h2 => ((HN.out.ps j p y h1 h2).robX B7 (fun k (h : k = w.heap.size + 1 ∨ k = NB) => by omega)) W2 hk
      xs := Hlx.out
      l1 := ⟨by show N.comps.length ≤ _; rw [Hnc.out]; exact hC3, hC4⟩
      l2 := ⟨by show N.parts.length ≤ _; rw [Hnp.out]; exact hP3, hP4⟩
      l3 := ⟨by show l.length ≤ _; rw [Hl.out]; exact hX3, hX4⟩ }
  have HT := HO.out ⟨some ⟨gC, 0, none⟩, c1, some ⟨g2, 0, none⟩, c2, some ⟨gX, 0, none⟩, cX, L.ys⟩ w7 (fun b => b = w.heap.size + 1 ∨ b = NB) B7 (fun k h => by have h : k = w.heap.size + 1 ∨ k = NB := h; omega) HNI
    (by
      show w7.ownsRow w.heap.size 83 16 (.slice (some ⟨g2, 0, none⟩) N.parts.length c2) N.parts.length (PCs N.parts L.ys)
      rw [Hnp.out]
      exact owns_low own27 (by omega))
    (fun j p y h1 h2 => (HN.out.ps j p y h1 h2).robX B7 (fun k h => by
      rcases h with (h | h) | h
      · omega
      · omega
      · have h : some g2 = some k := h
        have := Option.some.inj h
        omega))
  unfold NV NVals at HT
  simp only [Hnp.out, Hnc.out, Hl.out] at HT
  have HTo := Lib.hid HT
  clear HT HO HNI own16 own26 ownX own17 own27 ownX7 E6 r6 hkA
  go_wp2_with (first
    | (rw [hw7])
    | (refine wpList_loadB 26 (.tmp 7) (by rfl) (by rfl) NB (by rfl) [.slice (some ⟨gC, 0, none⟩) np c1, .slice (some ⟨g2, 0, none⟩) np c2, .slice (some ⟨gX, 0, none⟩) 16 cX, .int .i64 1] 26 nB _ Tryz.underlying26 rfl info_N ?_))
  refine HTo.out.mono ?_
  rintro e w8 ⟨L', rfl, hN', hk8⟩
  have r8 := rB.kepX hk8 (fun e => by have e : some g2 = some (w.heap.size + 1) := e; have := Option.some.inj e; omega)
  have B8 := hk8.toBelow B7 (fun b e => by have e : some g2 = some b := e; have := Option.some.inj e; omega)
  have HN' := Lib.hid hN'
  clear hN' hk8 nB rB HTo
  go_wp2_with (first
    | (refine wpList_storeB 26 (.tmp 4) (.tmp 30) (by rfl) (by rfl) (w.heap.size + 1) (by rfl) [.slice L'.a1 N2.comps.length L'.c1, .slice L'.a2 N2.parts.length L'.c2, .slice L'.a3 N2.ctxs.length L'.c3, .int .i64 N2.part] (by rfl) _ 26 r8 info_N rfl (by simp [Value.oneCell']) ?_
       intro wR ER gR sR))
  have hL := run_loadVar_mid wR _ 0 _ _ _ ER.cells Tryz.underlying26 rfl info_N
  refine bodyPost_ret (v := .tuple #[.agg #[.slice L'.a1 N2.comps.length L'.c1, .slice L'.a2 N2.parts.length L'.c2, .slice L'.a3 N2.ctxs.length L'.c3, .int .i64 N2.part], .int .i64 0]) ?_ rfl ?_
  · exact results_cell2 (show Tryz.f27.results = #[.cell 4 26, .tmp 5] from rfl) (p := ⟨w.heap.size + 1, 0, none⟩) rfl rfl hL
  · exact ⟨L', rfl, HN'.out wR (KepX.row gR (fun b e => .inl (.inl (Option.some.inj e).symm))), B8.trans (rowBelow gR (by omega) B8.size)⟩
end Go.Proofs.YtieeogndnhighaaGreat
set_option linter.unusedSimpArgs false
set_option linter.unusedVariables false
set_option linter.unusedSectionVars false
namespace Go.Proofs.YtieeogndnhighaaGreat
open Go.RowKit

theorem S06.spot_mono14 {p q : Int} (h : p ≤ q) : S06.spot p ≤ S06.spot q := by
  have hc : S06.chance p ≤ S06.chance q := by unfold S06.chance; omega
  have h1 := S06.spot_cuts p
  have h2 := S06.spot_cuts q
  rcases Nat.lt_or_ge (S06.spot q) (S06.spot p) with hl | hl
  · have h3 := (h1.2 (S06.spot q) (by have := h1.1; omega)).2 hl
    have h4 := (h2.2 (S06.spot q) (by have := h1.1; omega)).1 (by omega)
    omega
  · exact hl
theorem S06.stretch_mono14 {p q : Int} (h : p ≤ q) : S06.stretch p ≤ S06.stretch q := by
  have := S06.spot_mono14 h
  unfold S06.stretch
  omega
def dC (b : Nat) : S14.C := ⟨1, (b : Int), 30, 0, 0, 0⟩
theorem dC_one (b : Nat) : (dC b).kind = 1 := rfl
theorem dC_ne0 (b : Nat) : ¬ (dC b).kind = 0 := by rw [dC_one]; decide
def dN (b : Nat) (cs : List (Int × Int)) (xs : List Nat) (p : Int) : S14.N := ⟨[dC b], [{ S14.P0 with ctrs := cs }], xs, p⟩
def okC (c : Int × Int) : Prop := 0 ≤ c.1 ∧ c.1 ≤ 65535 ∧ 0 ≤ c.2 ∧ c.2 ≤ 30
structure OkN (b : Nat) (cs : List (Int × Int)) (xs : List Nat) (p : Int) : Prop where
  hb : b < 7
  len : cs.length = 2 ^ b
  ok : ∀ c ∈ cs, okC c
  xl : xs.length = 16
  pt : 1 ≤ p ∧ p ≤ 255
theorem okC_check {c : Int × Int} (h : okC c) : S08.check c.1 c.2 30 = 0 := by
  obtain ⟨h1, h2, h3, h4⟩ := h
  unfold S08.check
  rw [if_neg (by omega), if_neg (by omega)]
theorem check_dC : ∀ b < 7, S14.check [dC b] = 0 := by decide +kernel
theorem OkN.right {b : Nat} {cs : List (Int × Int)} {xs : List Nat} {p : Int} (h : OkN b cs xs p) : S14.right (dC b) { S14.P0 with ctrs := cs } p = true := by
  unfold S14.right
  rw [if_neg (dC_ne0 b), if_pos (dC_one b)]
  show (S14.bare S14.P0 && S14.okCtrs cs (2 ^ (b : Int).toNat) 30) = true
  rw [show S14.bare S14.P0 = true from rfl]
  simp only [Bool.true_and, S14.okCtrs, Int.toNat_natCast, h.len, decide_true, Bool.not_eq_true', List.any_eq_false]
  intro c hc
  rw [okC_check (h.ok c hc)]
  decide
theorem OkN.net {b : Nat} {cs : List (Int × Int)} {xs : List Nat} {p : Int} (h : OkN b cs xs p) : S14.checkNet (dN b cs xs p) = 0 :=
  S14.checkNet_of (check_dC b h.hb) rfl h.xl h.pt (fun k c q h1 h2 => by
    match k, h1, h2 with
    | 0, h1, h2 => cases h1; cases h2; exact h.right
    | k + 1, h1, _ => cases h1)
theorem dN_basic (b : Nat) (cs : List (Int × Int)) (xs : List Nat) (p : Int) : S14.basic (dN b cs xs p).comps := fun c hc => by
  have hc : c ∈ [dC b] := hc
  rw [List.mem_singleton] at hc
  subst hc
  exact .inr (.inl rfl)
theorem OkN.slim {b : Nat} {cs : List (Int × Int)} {xs : List Nat} {p : Int} (h : OkN b cs xs p) : S14.slim (dN b cs xs p) :=
  ⟨Nat.le_refl 1, Nat.le_refl 1, h.xl, fun q hq => by
    have hq : q ∈ [({ S14.P0 with ctrs := cs } : S14.P)] := hq
    rw [List.mem_singleton] at hq
    subst hq
    rfl⟩
/-- The counter that the network looks at. -/
def iN (b : Nat) (xs : List Nat) (p : Int) : Nat := S14.index (xs.getD 0 0) p.toNat b
def pN (b : Nat) (cs : List (Int × Int)) (xs : List Nat) (p : Int) : Int := S06.squash (S06.stretch (S08.predict (cs.getD (iN b xs p) (0, 0)).1 (cs.getD (iN b xs p) (0, 0)).2))
def uN (b : Nat) (cs : List (Int × Int)) (xs : List Nat) (p bit : Int) : List (Int × Int) := S14.upd cs (iN b xs p) bit 30
theorem pN_eq (b : Nat) (cs : List (Int × Int)) (xs : List Nat) (p : Int) : S06.squash ((S14.outs (S14.outB (dN b cs xs p)) 1).getD 0 0) = pN b cs xs p := by
  have h : S14.outs (S14.outB (dN b cs xs p)) 1 = [S06.stretch (S08.predict (cs.getD (iN b xs p) (0, 0)).1 (cs.getD (iN b xs p) (0, 0)).2)] := by
    show [S14.outB (dN b cs xs p) 0 []] = _
    unfold S14.outB
    rw [show (dN b cs xs p).comps.getD 0 S14.zc = dC b from rfl, if_neg (dC_ne0 b), if_pos (dC_one b)]
    rfl
  rw [h]
  rfl
theorem learnB_dN (b : Nat) (cs : List (Int × Int)) (xs : List Nat) (p bit : Int) : S14.parts1 (S14.learnB (dN b cs xs p) bit) (dN b cs xs p).parts 1 = [{ S14.P0 with ctrs := uN b cs xs p bit }] := by
  show [S14.learnB (dN b cs xs p) bit 0] = _
  unfold S14.learnB
  rw [show (dN b cs xs p).comps.getD 0 S14.zc = dC b from rfl, if_pos (dC_one b)]
  rfl
theorem upd_ok {c : Int × Int} (h : okC c) {bit : Int} (hb : bit = 0 ∨ bit = 1) : okC (S08.updateP c.1 c.2 bit 30, S08.updateN c.1 c.2 bit 30) ∧ (bit = 1 → c.1 ≤ S08.updateP c.1 c.2 bit 30) ∧ (bit = 0 → S08.updateP c.1 c.2 bit 30 ≤ c.1) := by
  obtain ⟨x, n⟩ := c
  obtain ⟨h1, h2, h3, h4⟩ := h
  simp only at h1 h2 h3 h4
  have hE : S08.updateE x n bit 30 = 0 := by
    unfold S08.updateE S08.check
    rcases hb with rfl | rfl <;> simp <;> omega
  unfold S08.updateP S08.updateN
  rw [if_neg (by rw [hE]; simp), if_neg (by rw [hE]; simp)]
  unfold S08.step okC
  simp only
  rcases hb with rfl | rfl
  · have e : (2 * (65535 * (0 : Int) - x)).tdiv (2 * n + 3) = - ((2 * x).tdiv (2 * n + 3)) := by
      rw [show 2 * (65535 * (0 : Int) - x) = - (2 * x) by omega, Int.neg_tdiv]
    have e1 : 0 ≤ (2 * x).tdiv (2 * n + 3) := Int.tdiv_nonneg (by omega) (by omega)
    have e2 : (2 * x).tdiv (2 * n + 3) ≤ x := by
      rw [Int.tdiv_eq_ediv_of_nonneg (by omega)]
      exact Int.ediv_le_of_le_mul (by omega) (by rw [show x * (2 * n + 3) = 2 * (x * n) + 3 * x by rw [Int.mul_add, ← Int.mul_assoc, Int.mul_comm x 2, Int.mul_assoc]; omega]; have := Int.mul_nonneg h1 h3; omega)
    rw [e]
    refine ⟨⟨by omega, by omega, by omega, by omega⟩, fun h => absurd h (by decide), fun _ => by omega⟩
  · have e1 : 0 ≤ (2 * (65535 * (1 : Int) - x)).tdiv (2 * n + 3) := Int.tdiv_nonneg (by omega) (by omega)
    have e2 : (2 * (65535 * (1 : Int) - x)).tdiv (2 * n + 3) ≤ 65535 - x := by
      rw [Int.tdiv_eq_ediv_of_nonneg (by omega)]
      have hm : 0 ≤ (65535 - x) * n := Int.mul_nonneg (by omega) h3
      exact Int.ediv_le_of_le_mul (by omega) (by rw [show (65535 - x) * (2 * n + 3) = 2 * ((65535 - x) * n) + 3 * (65535 - x) by rw [Int.mul_add, ← Int.mul_assoc, Int.mul_comm (65535 - x) 2, Int.mul_assoc]; omega]; omega)
    refine ⟨⟨by omega, by omega, by omega, by omega⟩, fun _ => by omega, fun h => absurd h (by decide)⟩
theorem getD_okC {cs : List (Int × Int)} (h : ∀ c ∈ cs, okC c) (i : Nat) : okC (cs.getD i (0, 0)) := by
  rw [List.getD_eq_getElem?_getD]
  cases e : cs[i]? with
  | none => exact ⟨by decide, by decide, by decide, by decide⟩
  | some c => exact h c (List.mem_of_getElem? e)
theorem OkN.learn {b : Nat} {cs : List (Int × Int)} {xs : List Nat} {p bit : Int} (h : OkN b cs xs p) (hb : bit = 0 ∨ bit = 1) : OkN b (uN b cs xs p bit) xs (S14.next p bit) where
  hb := h.hb
  len := by unfold uN S14.upd; rw [List.length_set]; exact h.len
  ok := fun c hc => by
    unfold uN S14.upd at hc
    rcases List.mem_or_eq_of_mem_set hc with h1 | h1
    · exact h.ok c h1
    · rw [h1]; exact (upd_ok (getD_okC h.ok _) hb).1
  xl := h.xl
  pt := by
    have := h.pt
    unfold S14.next
    split
    · omega
    · rcases hb with rfl | rfl <;> omega
/-- The counters have moved towards a bit. -/
def Toward (bit : Int) (cs cs' : List (Int × Int)) : Prop := ∀ j, (bit = 1 → (cs.getD j (0, 0)).1 ≤ (cs'.getD j (0, 0)).1) ∧ (bit = 0 → (cs'.getD j (0, 0)).1 ≤ (cs.getD j (0, 0)).1)
theorem Toward.refl (bit : Int) (cs : List (Int × Int)) : Toward bit cs cs := fun _ => ⟨fun _ => Int.le_refl _, fun _ => Int.le_refl _⟩
theorem Toward.upd {bit : Int} {cs cs' : List (Int × Int)} (h : Toward bit cs cs') (hok : ∀ c ∈ cs', okC c) (hb : bit = 0 ∨ bit = 1) (i : Nat) : Toward bit cs (S14.upd cs' i bit 30) := fun j => by
  have hu := upd_ok (getD_okC hok i) hb
  have hj := h j
  unfold S14.upd
  rw [List.getD_eq_getElem?_getD (l := cs'.set i _), List.getElem?_set]
  by_cases e : i = j
  · subst e
    rw [if_pos rfl]
    by_cases hi : i < cs'.length
    · rw [if_pos hi]
      simp only [Option.getD_some]
      exact ⟨fun h1 => Int.le_trans (hj.1 h1) (hu.2.1 h1), fun h1 => Int.le_trans (hu.2.2 h1) (hj.2 h1)⟩
    · rw [if_neg hi]
      rw [List.getD_eq_getElem?_getD (l := cs'), List.getElem?_eq_none (by omega)] at hj
      exact hj
  · rw [if_neg e, ← List.getD_eq_getElem?_getD]
    exact hj
theorem predict_mono14 {c d : Int × Int} (hc : okC c) (hd : okC d) (h : c.1 ≤ d.1) : S08.predict c.1 c.2 ≤ S08.predict d.1 d.2 := by
  obtain ⟨h1, h2, h3, h4⟩ := hc
  obtain ⟨k1, k2, k3, k4⟩ := hd
  unfold S08.predict
  rw [if_neg (by omega), if_neg (by omega)]
  omega
theorem pN_toward {b : Nat} {bit : Int} {cs cs' : List (Int × Int)} {xs : List Nat} {p : Int} (h : Toward bit cs cs') (hc : ∀ c ∈ cs, okC c) (hc' : ∀ c ∈ cs', okC c) : (bit = 1 → pN b cs xs p ≤ pN b cs' xs p) ∧ (bit = 0 → pN b cs' xs p ≤ pN b cs xs p) :=
  ⟨fun e => S06.squash_mono (S06.stretch_mono14 (predict_mono14 (getD_okC hc _) (getD_okC hc' _) ((h _).1 e))), fun e => S06.squash_mono (S06.stretch_mono14 (predict_mono14 (getD_okC hc' _) (getD_okC hc _) ((h _).2 e)))⟩
end Go.Proofs.YtieeogndnhighaaGreat
set_option linter.unusedSimpArgs false
set_option linter.unusedVariables false
set_option linter.unusedSectionVars false
namespace Go.Proofs.YtieeogndnhighaaGreat
open Go.RowKit

theorem bits_dC : ∀ b < 7, ∀ c ∈ [dC b], 0 ≤ c.kind ∧ c.kind ≤ 6 ∧ c.kind ≠ 2 := fun b _ c hc => by
  rw [List.mem_singleton] at hc
  subst hc
  rw [dC_one]
  decide
theorem open_dN (w : World) {b : Nat} (hb : b < 7) (cs : List (Int × Int)) (xs : List Nat) (p : Int) : OpenHolds w (dN b cs xs p) (dN b cs xs p) := openHolds_plain w _ (by show 1 ≤ 16; decide) (bits_dC b hb)
def cs0 (b : Nat) : List (Int × Int) := List.replicate (2 ^ b) (32768, 0)
def xs0 : List Nat := List.replicate 16 0
theorem OkN.start {b : Nat} (hb : b < 7) : OkN b (cs0 b) xs0 1 := ⟨hb, List.length_replicate, fun c hc => by
  have := List.eq_of_mem_replicate hc
  subst this
  exact ⟨by decide, by decide, by decide, by decide⟩, rfl, by decide⟩
theorem fresh_dN (b : Nat) : (⟨[dC b], [dC b].map S14.freshB, List.replicate 16 0, 1⟩ : S14.N) = dN b (cs0 b) xs0 1 := by
  have h : S14.freshB (dC b) = { S14.P0 with ctrs := cs0 b } := by
    unfold S14.freshB
    rw [if_pos (dC_one b)]
    show S14.fresh1 (2 ^ (b : Int).toNat) = _
    rw [Int.toNat_natCast]
    rfl
  show (⟨[dC b], [S14.freshB (dC b)], List.replicate 16 0, 1⟩ : S14.N) = _
  rw [h]
  rfl
theorem new_dN {b : Nat} (hb : b < 7) (a : Option Addr) (cap : Nat) (w : World) (hrd : Rd w a (Cs14 [dC b])) : Calls Tryz.prog 15 #[.slice a 1 cap] w fun e w' => ∃ VS, e = .returned (.tuple #[.agg VS.toArray, .int .i64 0]) ∧ NetIs (dN b (cs0 b) xs0 1) VS w' ∧ Below w.heap.size w w' :=
  (new14_good [dC b] S14.freshB (dN b (cs0 b) xs0 1) a cap w hrd (check_dC b hb) (fresh_basic _ (dN_basic b [] [] 1)) (by rw [fresh_dN]; exact open_dN w hb _ _ _)).mono fun e w' ⟨L, h1, h2, h3⟩ => ⟨_, h1, ⟨L, rfl, h2⟩, h3⟩
theorem pred_dN {b : Nat} {cs : List (Int × Int)} {xs : List Nat} {p : Int} (h : OkN b cs xs p) (VS : List Value) (w : World) (hV : NetIs (dN b cs xs p) VS w) : Calls Tryz.prog 22 #[.agg VS.toArray] w fun e w' => e = .returned (.tuple #[.int .i64 (pN b cs xs p), .int .i64 0]) ∧ Below w.heap.size w w' := by
  obtain ⟨L, rfl, hN⟩ := hV
  exact (predict14_good (dN b cs xs p) L (S14.outB (dN b cs xs p)) w hN (right_basic _ L w hN (dN_basic b cs xs p)) h.net (out_basic _ L w hN (dN_basic b cs xs p) h.net)).mono fun e w' h => ⟨h.1.trans (by
    show Ending.returned (.tuple #[.int .i64 _, .int .i64 0]) = _
    rw [← pN_eq b cs xs p]; rfl), h.2⟩
theorem learn_dN {b : Nat} {cs : List (Int × Int)} {xs : List Nat} {p bit : Int} (h : OkN b cs xs p) (hb : bit = 0 ∨ bit = 1) (VS : List Value) (w : World) (hV : NetIs (dN b cs xs p) VS w) : Calls Tryz.prog 25 #[.agg VS.toArray, .int .i64 bit] w fun e w' =>
    ∃ VS', e = .returned (.tuple #[.agg VS'.toArray, .int .i64 0]) ∧ NetIs (dN b (uN b cs xs p bit) xs (S14.next p bit)) VS' w' ∧ Below w.heap.size w w' := by
  obtain ⟨L, rfl, hN⟩ := hV
  have e : (⟨(dN b cs xs p).comps, S14.parts1 (S14.learnB (dN b cs xs p) bit) (dN b cs xs p).parts (dN b cs xs p).comps.length, (dN b cs xs p).ctxs, S14.next (dN b cs xs p).part bit⟩ : S14.N) = dN b (uN b cs xs p bit) xs (S14.next p bit) := by
    show (⟨[dC b], S14.parts1 (S14.learnB (dN b cs xs p) bit) (dN b cs xs p).parts 1, xs, S14.next p bit⟩ : S14.N) = _
    rw [learnB_dN]
    rfl
  exact (learn14_good (dN b cs xs p) (dN b (uN b cs xs p bit) xs (S14.next p bit)) L (S14.outB (dN b cs xs p)) (S14.learnB (dN b cs xs p) bit) bit w hN (right_basic _ L w hN (dN_basic b cs xs p)) h.net (out_basic _ L w hN (dN_basic b cs xs p) h.net) hb
    (learn_basic _ L bit w hN (dN_basic b cs xs p) h.net) (fun _ => by rw [e]; exact open_dN w h.hb _ _ _) (fun _ => e.symm)).mono fun e w' ⟨L', h1, h2, h3⟩ => ⟨_, h1, ⟨L', rfl, h2⟩, h3⟩
theorem ctx_dN {b : Nat} {cs : List (Int × Int)} {xs l : List Nat} (h : OkN b cs xs 1) (hl : l.length = 16) (hlx : ∀ x ∈ l, x < 4294967296) (VS : List Value) (a : Option Addr) (cap : Nat) (w : World) (hV : NetIs (dN b cs xs 1) VS w) (hrd : Rd w a (U32s l)) :
    Calls Tryz.prog 27 #[.agg VS.toArray, .slice a 16 cap] w fun e w' => ∃ VS', e = .returned (.tuple #[.agg VS'.toArray, .int .i64 0]) ∧ NetIs (dN b cs l 1) VS' w' ∧ Below w.heap.size w w' := by
  obtain ⟨L, rfl, hN⟩ := hV
  exact (contexts14_good (dN b cs xs 1) (dN b cs l 1) L l a cap w hN (right_basic _ L w hN (dN_basic b cs xs 1)) h.net rfl hl hlx hrd (open_dN w h.hb cs l 1)).mono fun e w' ⟨L', h1, h2, h3⟩ => ⟨_, h1, ⟨L', rfl, h2⟩, h3⟩
theorem OkN.ctx {b : Nat} {cs : List (Int × Int)} {xs l : List Nat} {p : Int} (h : OkN b cs xs p) (hl : l.length = 16) : OkN b cs l p := ⟨h.hb, h.len, h.ok, hl, h.pt⟩

/-- The law's contexts of a byte. -/
def ctxL (b : Nat) : List Nat := (List.range 16).map (b * ·)
theorem ctxL_length (b : Nat) : (ctxL b).length = 16 := by unfold ctxL; rw [List.length_map, List.length_range]
theorem ctxL_lt {b : Nat} (hb : b < 256) : ∀ x ∈ ctxL b, x < 4294967296 := fun x hx => by
  obtain ⟨i, hi, rfl⟩ := List.mem_map.1 hx
  rw [List.mem_range] at hi
  have : b * i ≤ 256 * 16 := Nat.mul_le_mul (by omega) (by omega)
  omega
def ctxK (b k : Nat) : List Value := (List.range 16).map fun i => .int .u32 (if i < k then ((b * i : Nat) : Int) else 0)
theorem ctxK_zero (b : Nat) : ctxK b 0 = List.replicate 16 (.int .u32 0) := rfl
theorem ctxK_set (b k : Nat) : (ctxK b k).set k (.int .u32 ((b * k : Nat) : Int)) = ctxK b (k + 1) := by
  unfold ctxK
  apply List.ext_getElem?
  intro j
  rw [List.getElem?_set]
  simp only [List.length_map, List.length_range, List.getElem?_map]
  by_cases h : k = j
  · subst h
    rw [if_pos rfl]
    by_cases h16 : k < 16
    · rw [if_pos h16, List.getElem?_range h16]
      simp
    · rw [if_neg h16, List.getElem?_eq_none (by simp; omega)]
      rfl
  · rw [if_neg h]
    by_cases h16 : j < 16
    · rw [List.getElem?_range h16]
      simp only [Option.map_some, Option.some.injEq, Value.int.injEq, true_and]
      by_cases hk : j < k
      · rw [if_pos hk, if_pos (by omega)]
      · rw [if_neg hk, if_neg (by omega)]
    · rw [List.getElem?_eq_none (by simp; omega)]
      rfl
theorem ctxK_all (b : Nat) : ctxK b 16 = U32s (ctxL b) := by
  unfold ctxK U32s ctxL
  rw [List.map_map]
  apply List.map_congr_left
  intro i hi
  rw [List.mem_range] at hi
  rw [if_pos hi]
  rfl
theorem ctxK_length (b k : Nat) : (ctxK b k).length = 16 := by unfold ctxK; rw [List.length_map, List.length_range]
set_option maxRecDepth 100000 in
set_option maxHeartbeats 1000000 in
theorem lawContext14 (b : Nat) (hb : b < 256) (w : World) : Calls Tryz.prog 62 #[.int .u8 (b : Int)] w fun e w' => ∃ g, e = .returned (.slice (some ⟨g, 0, none⟩) 16 16) ∧ Rd w' (some ⟨g, 0, none⟩) (U32s (ctxL b)) ∧ Below w.heap.size w w' := by
  obtain ⟨W1, hW1⟩ : ∃ W1, w.alloc (.cells (List.replicate 16 (.int .u32 0)).toArray 109) = W1 := ⟨_, rfl⟩
  obtain ⟨G, hG⟩ : ∃ G, w.heap.size = G := ⟨_, rfl⟩
  have E0 : Blk W1 G (ctxK b 0) 109 := by rw [← hW1, ← hG]; exact Blk.new w (List.replicate 16 (.int .u32 0)) _
  have B1 : Below G w W1 := by rw [← hW1, ← hG]; exact (Below.refl _ _).alloc (Nat.le_refl _) _
  have hmk := mk16 w
  rw [hW1, hG] at hmk
  rw [hG]
  clear hW1
  go_enter Tryz.func62, Tryz.ntmps62
  go_wp2
  clear hmk
  go_loopw [8] (fun i wr => ∃ k : Nat, k ≤ 16 ∧ i = .int .i64 (k : Int) ∧ Blk wr G (ctxK b k) 109 ∧ Below G w wr) (fun i _ => 16 - (intOf i).toNat)
  case atStart => exact ⟨0, by omega, rfl, E0, B1⟩
  case round =>
    clear E0 B1
    obtain ⟨k, hk, rfl, E, hB⟩ := hrel
    have hz := E.lt
    by_cases hlt : k < 16
    · have hlt2 : (k : Int) < 16 := by omega
      have hm : b * k ≤ 256 * 16 := Nat.mul_le_mul (by omega) (by omega)
      have e1 : IntKind.u32.wrap ((b : Int) * (k : Int)) = ((b * k : Nat) : Int) := by
        unfold IntKind.wrap
        simp only [IntKind.signed, IntKind.bits]
        have : ((b : Int) * (k : Int)) = ((b * k : Nat) : Int) := by push_cast; rfl
        rw [this]
        simp
        omega
      have hc : ∃ v, wr.cell? ⟨G, k, none⟩ = some v := by
        rw [E.cell]
        exact ⟨_, List.getElem?_eq_getElem (by rw [ctxK_length]; exact hlt)⟩
      obtain ⟨v, hc⟩ := hc
      have hf := E.free k
      have E2 := E.set k (.int .u32 ((b * k : Nat) : Int))
      rw [ctxK_set] at E2
      have hB2 : Below G w (wr.setCell ⟨G, k, none⟩ (.int .u32 ((b * k : Nat) : Int))) := hB.trans (rowBelow (grown_set14 wr G k _) (Nat.le_refl _) (by omega))
      go_wp2
      go_roundw
      case rel => exact ⟨k + 1, by omega, by simp, by rw [← Int.natCast_mul]; exact E2, by rw [← Int.natCast_mul]; exact hB2⟩
      case measure => simp [intOf]; omega
    · obtain rfl : k = 16 := by omega
      rw [ctxK_all] at E
      go_wp2
      go_returns
      exact ⟨G, rfl, fun _ => ⟨G, 0, rfl, E.cells⟩, hB⟩
end Go.Proofs.YtieeogndnhighaaGreat
set_option linter.unusedSimpArgs false
set_option linter.unusedVariables false
set_option linter.unusedSectionVars false
namespace Go.Proofs.YtieeogndnhighaaGreat
open Go.RowKit

set_option maxRecDepth 100000 in
theorem lawTrue14 (VS : List Value) (w : World) : Calls Tryz.prog 34 #[.agg VS.toArray] w fun e w' => e = .returned (.bool true) ∧ Below w.heap.size w w' := by
  go_enter Tryz.func34, Tryz.ntmps34
  go_wp2
  go_returns
  exact ⟨rfl, (Below.refl _ _).alloc (Nat.le_refl _) _⟩

/-- What Partial is behind j bits. -/
def PartAt (j : Nat) (p : Int) : Prop := (j < 8 ∧ (2 : Int) ^ j ≤ p ∧ p < 2 ^ (j + 1)) ∨ (j = 8 ∧ p = 1)
theorem PartAt.zero : PartAt 0 1 := .inl ⟨by decide, by decide, by decide⟩
theorem PartAt.one {p : Int} (h : PartAt 8 p) : p = 1 := by
  rcases h with h | h
  · omega
  · exact h.2
theorem PartAt.next {j : Nat} {p bit : Int} (h : PartAt j p) (hj : j < 8) (hb : bit = 0 ∨ bit = 1) : PartAt (j + 1) (S14.next p bit) := by
  have hc : j = 0 ∨ j = 1 ∨ j = 2 ∨ j = 3 ∨ j = 4 ∨ j = 5 ∨ j = 6 ∨ j = 7 := by omega
  unfold PartAt S14.next at *
  rcases hc with rfl | rfl | rfl | rfl | rfl | rfl | rfl | rfl <;> simp at h ⊢ <;> rcases hb with rfl | rfl <;> first | omega | (intro _; omega) | (split <;> omega)

theorem and1_all14 : ∀ y < 256, bits BinOp.and IntKind.u8 ((y : Nat) : Int) 1 = 0 ∨ bits BinOp.and IntKind.u8 ((y : Nat) : Int) 1 = 1 := by decide +kernel
theorem and1_14 (x : Nat) (hx : x < 256) (j : Nat) : bits BinOp.and IntKind.u8 ((x : Int) / 2 ^ (7 - j)) 1 = 0 ∨ bits BinOp.and IntKind.u8 ((x : Int) / 2 ^ (7 - j)) 1 = 1 := by
  have e : (x : Int) / 2 ^ (7 - j) = ((x / 2 ^ (7 - j) : Nat) : Int) := by simp
  rw [e]
  exact and1_all14 _ (Nat.lt_of_le_of_lt (Nat.div_le_self _ _) hx)

set_option maxRecDepth 100000 in
set_option maxHeartbeats 20000000 in
theorem feed14_dN {b : Nat} {cs : List (Int × Int)} {xs : List Nat} (data : List Int) (hok : OkN b cs xs 1) (VS : List Value) (a : Option Addr) (cap : Nat) (w : World) (hV : NetIs (dN b cs xs 1) VS w) (hd : ∀ x ∈ data, 0 ≤ x ∧ x < 256) (hl : data.length ≤ 16) (hrd : Rd w a (Bts data)) :
    Calls Tryz.prog 30 #[.agg VS.toArray, .slice a data.length cap, .func (.func 34) #[] #[]] w fun e w' =>
      ∃ VS' cs' xs', e = .returned (.tuple #[.agg VS'.toArray, .bool true]) ∧ OkN b cs' xs' 1 ∧ NetIs (dN b cs' xs' 1) VS' w' ∧ Below w.heap.size w w' := by
  obtain ⟨W1, hW1⟩ : ∃ W1, (w.alloc (.cells VS.toArray 26)).alloc (.cells zN 26) = W1 := ⟨_, rfl⟩
  have k1 : Blk W1 w.heap.size VS 26 := by rw [← hW1]; exact (Blk.new w _ _).alloc _
  have r1 : Blk W1 (w.heap.size + 1) [.slice none 0 0, .slice none 0 0, .slice none 0 0, .int .i64 0] 26 := by
    rw [← hW1]
    have h := Blk.new (w.alloc (.cells VS.toArray 26)) [.slice none 0 0, .slice none 0 0, .slice none 0 0, .int .i64 0] 26
    rwa [World.size_alloc] at h
  have B1 : Below w.heap.size w W1 := by rw [← hW1]; exact ((Below.refl _ _).alloc (Nat.le_refl _) _).alloc (by simp) _
  have hV1 := hV.step B1
  have Hrd := Lib.hid hrd
  unfold zN at hW1
  clear hV hrd
  obtain ⟨n, hn⟩ : ∃ n, data.length = n := ⟨_, rfl⟩
  have Hn := Lib.hid hn
  rw [hn] at hl ⊢
  clear hn
  go_enter Tryz.func30, Tryz.ntmps30
  go_wp2_with (rw [hW1])
  clear hW1
  go_loopw [8, 16] (fun v i wr => ∃ (k la : Nat) (VK : List Value) (ck : List (Int × Int)) (xk : List Nat), k ≤ n ∧ i = .int .i64 (k : Int) ∧ v = .int .u8 (la : Int) ∧ la < 256 ∧ OkN b ck xk 1 ∧ NetIs (dN b ck xk 1) VK wr ∧
    Blk wr w.heap.size VK 26 ∧ Blk wr (w.heap.size + 1) [.slice none 0 0, .slice none 0 0, .slice none 0 0, .int .i64 0] 26 ∧ Below w.heap.size w wr) (fun _ i _ => n - (intOf i).toNat)
  case atStart => exact ⟨0, 0, VS, cs, xs, by omega, rfl, rfl, by omega, hok, hV1, k1, r1, B1⟩
  case round =>
    clear hV1 k1 r1 B1 hok
    obtain ⟨k, la, VK, ck, xk, hk, rfl, rfl, hla, okk, hVk, kr, rr, hB⟩ := hrel
    by_cases hlt : k < n
    · have hltz : (k : Int) < (n : Int) := by omega
      obtain ⟨g, o, rfl, hcs⟩ := (Hrd.out.step hB).at (i := k) (by unfold Bts; rw [List.length_map, Hn.out]; exact hlt)
      obtain ⟨x, hx, hx2⟩ : ∃ x : Nat, wr.cell? ⟨g, o + k, none⟩ = some (.int .u8 (x : Int)) ∧ x < 256 := by
        have hkl : k < data.length := by rw [Hn.out]; exact hlt
        have h1 := hcs k (by unfold Bts; rw [List.length_map]; exact hkl)
        have h2 := hd data[k] (List.getElem_mem hkl)
        refine ⟨data[k].toNat, ?_, by omega⟩
        rw [h1, Int.toNat_of_nonneg h2.1]
        simp [Bts]
      clear hcs
      go_wp2_with fail
      refine wp_region_plan 9 1 (.read 0 (.read 1 (.two (.one 2 (.two (.one 3 (.read 4 (.read 5 (.read 6 (.one 7 (.one 8 .done)))))) (.one 7 (.one 3 (.read 4 (.read 5 (.read 6 (.one 8 .done)))))))) (.one 7 (.one 2 (.one 3 (.read 4 (.read 5 (.read 6 (.one 8 .done)))))))))) _ _ o0P (fun K => Below wr.heap.size wr K ∧ Blk K w.heap.size VK 26) (by kernel_rfl) (List.take_append_drop 9 _).symm (by kernel_rfl) (by kernel_rfl) (by kernel_rfl) (by kernel_rfl) (⟨(Below.refl _ _).drew, kr⟩) (fun Y Q4 F4 hY hF => ?_)
      simp only [Plan.map, List.take_succ_cons, List.take_zero, List.drop_succ_cons, List.drop_zero, List.getD_cons_zero, List.getD_cons_succ]
      repeat
        apply wpPlan_read (by first | rfl | (rw [hY]; rfl))
        · intro w2 hS2
          (try simp only [Keeps, Cells] at hS2)
          (try simp only [HasC, Cells] at hS2)
          go_simp
          with_reducible rfl
        simp only [Act.put, List.setIfInBounds_toArray, List.set_cons_zero, List.set_cons_succ]
      have hVKl := Lib.hid hVk.len
      have fin : ∀ (gc : Nat) (V2 : List Value) (b11 : Nat) (wS : World), Below wr.heap.size wr wS → Blk wS b11 V2 26 → NetIs (dN b ck (ctxL la) 1) V2 wS → wr.heap.size ≤ b11 → F4 { tmps := #[.agg VS.toArray, .slice (some ⟨g, o, none⟩) n cap, .func (.func 34) #[] #[], .pointer (some ⟨w.heap.size, 0, none⟩), undef, undef, .pointer (some ⟨(w.heap.size + 1), 0, none⟩), u7, .int .u8 (la : Int), undef, .int .u8 (x : Int), .pointer (some ⟨b11, 0, none⟩), u12, u13, .slice (some ⟨g, o, none⟩) n cap, .int .i64 (n : Int), .int .i64 (k : Int), .bool true, .pointer (some ⟨g, o + k, none⟩), .int .u8 (x : Int), .tuple #[.agg V2.toArray, .int .i64 0], .agg VK.toArray, .int .u8 (la : Int), .slice (some ⟨gc, 0, none⟩) 16 16, .tuple #[.agg V2.toArray, .int .i64 0], .agg V2.toArray, .int .i64 0, u27, u28, u29, u30, u31, u32, u33, u34, u35, u36, u37, u38, u39, u40, u41, u42, u43, u44, u45, u46, u47, u48, u49, u50, u51, u52, u53, u54, undef, undef, undef, undef], defers := [] } wS := by
        intro gc V2 b11 wS BS ES NS hb11
        refine hF _ _ (fun K hK => ?_)
        clear hF hY
        have HK := Lib.hid hK
        clear hK
        go_wp2_with fail
        refine OnlyK.mk (HK.out _ _ ?_)
        have V2l := Lib.hid NS.len
        have V2o := Lib.hid NS.one
        have kS := kr.step BS
        have rS := rr.step BS
        have BSw := below_trans hB BS
        have okc := okk.ctx (ctxL_length la)
        have hcsK := hVk.cs
        clear kr rr hVk okk
        go_wp2_with (first
          | (refine wpList_loadB 26 (.tmp 11) (by rfl) (by rfl) b11 (by rfl) V2 26 ES _ Tryz.underlying26 rfl (info_N.trans (congrArg some V2l.out.symm)) ?_)
          | (refine wpList_storeB 26 (.tmp 3) (.tmp 30) (by rfl) (by rfl) w.heap.size (by rfl) V2 (by rfl) _ 26 kS (info_N.trans (congrArg some V2l.out.symm)) (hVKl.out.trans V2l.out.symm) V2o.out ?_
             intro s3 E3 g3 z3; clear z3))
        have N3 := NS.keep okc.slim kS hcsK g3
        have r3 := rS.keptRow g3 (by intro e; have := Option.some.inj e; omega)
        have B3 := BSw.trans (rowBelow g3 (Nat.le_refl _) BSw.size)
        clear NS kS rS BSw BS ES hcsK V2l V2o g3
        go_loopw [13] (fun v wi => ∃ (j : Nat) (VJ : List Value) (cj : List (Int × Int)) (p : Int), j ≤ 8 ∧ v = .int .i64 (7 - (j : Int)) ∧ OkN b cj (ctxL la) p ∧ Hid (PartAt j p) ∧ NetIs (dN b cj (ctxL la) p) VJ wi ∧ Blk wi w.heap.size VJ 26 ∧ Blk wi (w.heap.size + 1) [.slice none 0 0, .slice none 0 0, .slice none 0 0, .int .i64 0] 26 ∧ Below w.heap.size w wi) (fun v _ => (intOf v + 1).toNat)
        case atStart => exact ⟨0, V2, ck, 1, by omega, rfl, okc, Lib.hid PartAt.zero, N3, E3, r3, B3⟩
        case round =>
          clear N3 E3 r3 B3 okc
          obtain ⟨j, VJ, cj, p, hj, rfl, okj, hpj, Nj, Ej, rj, Bj⟩ := hrel
          by_cases hj8 : j < 8
          · have hjz : (0 : Int) ≤ 7 - (j : Int) := by omega
            have VJl := Lib.hid Nj.len
            go_wp2_with (first
              | (refine wpList_loadB 26 (.tmp 3) (by rfl) (by rfl) w.heap.size (by rfl) VJ 26 Ej _ Tryz.underlying26 rfl (info_N.trans (congrArg some VJl.out.symm)) ?_))
            refine (lawTrue14 VJ _).mono ?_
            rintro e w5 ⟨rfl, hb5⟩
            have Nj := Nj.step hb5
            have Ej := Ej.step hb5
            have rj := rj.step hb5
            have Bj := below_trans Bj hb5
            clear hb5
            go_wp2_with fail
            refine wp_region_plan 11 1 (.read 1 (.read 2 (.read 3 (.read 4 (.read 5 (.one 0 (.one 6 (.read 7 (.read 8 (.read 9 (.one 10 .done))))))))))) _ _ o0P (fun _ => True) (by kernel_rfl) (List.take_append_drop 11 _).symm (by kernel_rfl) (by kernel_rfl) (by kernel_rfl) (by kernel_rfl) (trivial) (fun Y Q4 F4 hY hF => ?_)
            simp only [Plan.map, List.take_succ_cons, List.take_zero, List.drop_succ_cons, List.drop_zero, List.getD_cons_zero, List.getD_cons_succ]
            repeat
              apply wpPlan_read (by first | rfl | (rw [hY]; rfl))
              · intro w2 hS2
                (try simp only [Keeps, Cells] at hS2)
                (try simp only [HasC, Cells] at hS2)
                go_simp
                with_reducible rfl
              simp only [Act.put, List.setIfInBounds_toArray, List.set_cons_zero, List.set_cons_succ]
            refine wpPlan_value (by first | rfl | (rw [hY]; rfl)) (exec_loadB 26 (.tmp 3) (by rfl) w.heap.size (by rfl) VJ Ej.drew.cells _ Tryz.underlying26 rfl (info_N.trans (congrArg some VJl.out.symm))) trivial ?_
            simp only [Act.put, List.setIfInBounds_toArray, List.set_cons_zero, List.set_cons_succ]
            repeat
              apply wpPlan_read (by first | rfl | (rw [hY]; rfl))
              · intro w2 hS2
                (try simp only [Keeps, Cells] at hS2)
                (try simp only [HasC, Cells] at hS2)
                go_simp
                with_reducible rfl
              simp only [Act.put, List.setIfInBounds_toArray, List.set_cons_zero, List.set_cons_succ]
            obtain ⟨bt, hbt⟩ : ∃ bt, bits BinOp.and IntKind.u8 ((x : Int) / 2 ^ (7 - j)) 1 = bt := ⟨_, rfl⟩
            have hb01 : bt = 0 ∨ bt = 1 := by rw [← hbt]; exact and1_14 x hx2 j
            have hwb : IntKind.i64.wrap bt = bt := by rcases hb01 with rfl | rfl <;> rfl
            rw [hbt, hwb]
            apply wpPlan_call (by first | rfl | (rw [hY]; rfl))
            · go_simp
              with_reducible exact ⟨rfl, rfl⟩
            refine (learn_dN okj hb01 VJ _ (Nj.step (Below.refl _ _).drew)).mono ?_
            rintro e w6 ⟨V6, rfl, N6, hb6⟩
            have hb6w : Below w5.heap.size w5 w6 := (Below.refl _ _).drew.trans hb6
            have E6 := Ej.step hb6w
            have r6 := rj.step hb6w
            have B6 := below_trans Bj hb6w
            have ok6 := okj.learn hb01
            have p6 := Lib.hid (hpj.out.next hj8 hb01)
            have hcs6 := Nj.cs
            refine ⟨_, rfl, trivial, ?_⟩
            simp only [Act.put, List.setIfInBounds_toArray, List.set_cons_zero, List.set_cons_succ]
            repeat
              apply wpPlan_read (by first | rfl | (rw [hY]; rfl))
              · intro w2 hS2
                (try simp only [Keeps, Cells] at hS2)
                (try simp only [HasC, Cells] at hS2)
                go_simp
                with_reducible rfl
              simp only [Act.put, List.setIfInBounds_toArray, List.set_cons_zero, List.set_cons_succ]
            refine wpPlan_storeB 26 (.tmp 3) (.tmp 48) (by rfl) (by first | rfl | (rw [hY]; rfl)) w.heap.size (by rfl) V6 (by rfl) _ 26 E6 (info_N.trans (congrArg some N6.len.symm)) (VJl.out.trans N6.len.symm) N6.one ?_
            intro s6 ES6 g6 z6
            refine ⟨trivial, ?_⟩
            simp only [Act.put, List.setIfInBounds_toArray, List.set_cons_zero, List.set_cons_succ]
            have NS6 := N6.keep ok6.slim E6 hcs6 g6
            have rS6 := r6.keptRow g6 (by intro e; have := Option.some.inj e; omega)
            have BS6 := B6.trans (rowBelow g6 (Nat.le_refl _) B6.size)
            refine wpPlan_done (hF _ _ (fun K2 hK2 => ?_))
            clear hF hY g6 z6 E6 r6 B6 hcs6 N6 hb6 hb6w Nj Ej rj Bj okj hpj hbt
            have HK2 := Lib.hid hK2
            clear hK2
            go_wp2_with fail
            refine OnlyK.mk (HK2.out _ _ ?_)
            go_wp2_with fail
            go_roundw
            case rel => exact ⟨j + 1, V6, _, _, by omega, by simp; omega, ok6, p6, NS6, ES6, rS6, BS6⟩
            case measure => simp [intOf]; omega
          · obtain rfl : j = 8 := by omega
            have hp1 := hpj.out.one
            subst hp1
            go_wp2_with fail
            go_roundw
            case rel => exact ⟨k + 1, x, VJ, cj, ctxL la, by omega, by simp, rfl, hx2, okj, Nj, Ej, rj, Bj⟩
            case measure => simp [intOf]; omega
      have hbv0 : Below wr.heap.size wr wr.drew := (Below.refl _ _).drew
      obtain ⟨v0, hv0⟩ : ∃ v, wr.drew = v := ⟨_, rfl⟩
      have kv0 : Blk v0 w.heap.size VK 26 := by rw [← hv0]; exact kr.drew
      rw [hv0] at hbv0 ⊢
      refine wpPlan_read (by first | rfl | (rw [hY]; rfl)) (fun w2 hS2 => exec_loadB 26 (.tmp 3) (by rfl) w.heap.size (by rfl) VK hS2.2.cells _ Tryz.underlying26 rfl (info_N.trans (congrArg some hVKl.out.symm))) ?_
      simp only [Act.put, List.setIfInBounds_toArray, List.set_cons_zero, List.set_cons_succ]
      repeat
        apply wpPlan_read (by first | rfl | (rw [hY]; rfl))
        · intro w2 hS2
          (try simp only [Keeps, Cells] at hS2)
          (try simp only [HasC, Cells] at hS2)
          go_simp
          with_reducible rfl
        simp only [Act.put, List.setIfInBounds_toArray, List.set_cons_zero, List.set_cons_succ]
      refine wpPlan_two ?_ ?_
      · skip
        apply wpPlan_call (by first | rfl | (rw [hY]; rfl))
        · go_simp
          with_reducible exact ⟨rfl, rfl⟩
        refine (lawContext14 la hla _).mono ?_
        rintro e v1 ⟨gc, rfl, rx, hbv10⟩
        have hbv1 := below_trans hbv0 hbv10
        clear hbv10
        refine ⟨_, rfl, ⟨hbv1, kr.step hbv1⟩, ?_⟩
        simp only [Act.put, List.setIfInBounds_toArray, List.set_cons_zero, List.set_cons_succ]
        repeat
          apply wpPlan_read (by first | rfl | (rw [hY]; rfl))
          · intro w2 hS2
            (try simp only [Keeps, Cells] at hS2)
            (try simp only [HasC, Cells] at hS2)
            go_simp
            with_reducible rfl
          simp only [Act.put, List.setIfInBounds_toArray, List.set_cons_zero, List.set_cons_succ]
        refine wpPlan_two ?_ ?_
        · skip
          apply wpPlan_call (by first | rfl | (rw [hY]; rfl))
          · go_simp
            with_reducible exact ⟨rfl, rfl⟩
          refine (ctx_dN okk (ctxL_length la) (ctxL_lt hla) VK _ _ _ (hVk.step hbv1) rx).mono ?_
          rintro e v2 ⟨V2, rfl, NS, hbv20⟩
          have hbv2 := below_trans hbv1 hbv20
          clear rx hbv20
          refine ⟨_, rfl, ⟨hbv2, kr.step hbv2⟩, ?_⟩
          simp only [Act.put, List.setIfInBounds_toArray, List.set_cons_zero, List.set_cons_succ]
          repeat
            apply wpPlan_read (by first | rfl | (rw [hY]; rfl))
            · intro w2 hS2
              (try simp only [Keeps, Cells] at hS2)
              (try simp only [HasC, Cells] at hS2)
              go_simp
              with_reducible rfl
            simp only [Act.put, List.setIfInBounds_toArray, List.set_cons_zero, List.set_cons_succ]
          have hbv30 : Below v2.heap.size v2 (v2.alloc (.cells #[.slice none 0 0, .slice none 0 0, .slice none 0 0, .int .i64 0] 26)) := (Below.refl _ _).alloc (Nat.le_refl _) _
          have hbv3 := below_trans hbv2 hbv30
          refine wpPlan_value (by first | rfl | (rw [hY]; rfl)) (by go_simp; first | with_reducible exact ⟨rfl, rfl⟩ | with_reducible rfl) ((show Below wr.heap.size wr (v2.alloc (.cells #[.slice none 0 0, .slice none 0 0, .slice none 0 0, .int .i64 0] 26)) ∧ Blk (v2.alloc (.cells #[.slice none 0 0, .slice none 0 0, .slice none 0 0, .int .i64 0] 26)) w.heap.size VK 26 from ⟨hbv3, kr.step hbv3⟩)) ?_
          simp only [Act.put, List.setIfInBounds_toArray, List.set_cons_zero, List.set_cons_succ]
          have NS := NS.step hbv30
          have kN := Blk.new v2 [.slice none 0 0, .slice none 0 0, .slice none 0 0, .int .i64 0] 26
          have zN : wr.heap.size ≤ v2.heap.size := hbv2.size
          obtain ⟨b11, hb11⟩ : ∃ x, v2.heap.size = x := ⟨_, rfl⟩
          clear hbv30
          rw [hb11] at kN zN ⊢
          obtain ⟨v3, hv3⟩ : ∃ v, (v2.alloc (.cells #[.slice none 0 0, .slice none 0 0, .slice none 0 0, .int .i64 0] 26)) = v := ⟨_, rfl⟩
          rw [hv3] at hbv3 NS kN ⊢
          repeat
            apply wpPlan_read (by first | rfl | (rw [hY]; rfl))
            · intro w2 hS2
              (try simp only [Keeps, Cells] at hS2)
              (try simp only [HasC, Cells] at hS2)
              go_simp
              with_reducible rfl
            simp only [Act.put, List.setIfInBounds_toArray, List.set_cons_zero, List.set_cons_succ]
          refine wpPlan_storeB 26 (.tmp 11) (.tmp 25) (by rfl) (by first | rfl | (rw [hY]; rfl)) b11 (by rfl) V2 (by rfl) _ 26 kN (info_N.trans (congrArg some NS.len.symm)) NS.len.symm NS.one ?_
          intro wS ES gS sS
          have hbS : Below wr.heap.size wr wS := hbv3.trans (rowBelow gS zN hbv3.size)
          refine ⟨⟨hbS, kr.step hbS⟩, ?_⟩
          simp only [Act.put, List.setIfInBounds_toArray, List.set_cons_zero, List.set_cons_succ]
          exact wpPlan_done (fin _ _ _ wS hbS ES (NS.keep (okk.ctx (ctxL_length la)).slim kN netCs_zero gS) zN)
        · skip
          have hbv20 : Below v1.heap.size v1 (v1.alloc (.cells #[.slice none 0 0, .slice none 0 0, .slice none 0 0, .int .i64 0] 26)) := (Below.refl _ _).alloc (Nat.le_refl _) _
          have hbv2 := below_trans hbv1 hbv20
          refine wpPlan_value (by first | rfl | (rw [hY]; rfl)) (by go_simp; first | with_reducible exact ⟨rfl, rfl⟩ | with_reducible rfl) ((show Below wr.heap.size wr (v1.alloc (.cells #[.slice none 0 0, .slice none 0 0, .slice none 0 0, .int .i64 0] 26)) ∧ Blk (v1.alloc (.cells #[.slice none 0 0, .slice none 0 0, .slice none 0 0, .int .i64 0] 26)) w.heap.size VK 26 from ⟨hbv2, kr.step hbv2⟩)) ?_
          simp only [Act.put, List.setIfInBounds_toArray, List.set_cons_zero, List.set_cons_succ]
          have rx := rx.step hbv20
          have kN := Blk.new v1 [.slice none 0 0, .slice none 0 0, .slice none 0 0, .int .i64 0] 26
          have zN : wr.heap.size ≤ v1.heap.size := hbv1.size
          obtain ⟨b11, hb11⟩ : ∃ x, v1.heap.size = x := ⟨_, rfl⟩
          clear hbv20
          rw [hb11] at kN zN ⊢
          obtain ⟨v2, hv2⟩ : ∃ v, (v1.alloc (.cells #[.slice none 0 0, .slice none 0 0, .slice none 0 0, .int .i64 0] 26)) = v := ⟨_, rfl⟩
          rw [hv2] at hbv2 rx kN ⊢
          repeat
            apply wpPlan_read (by first | rfl | (rw [hY]; rfl))
            · intro w2 hS2
              (try simp only [Keeps, Cells] at hS2)
              (try simp only [HasC, Cells] at hS2)
              go_simp
              with_reducible rfl
            simp only [Act.put, List.setIfInBounds_toArray, List.set_cons_zero, List.set_cons_succ]
          apply wpPlan_call (by first | rfl | (rw [hY]; rfl))
          · go_simp
            with_reducible exact ⟨rfl, rfl⟩
          refine (ctx_dN okk (ctxL_length la) (ctxL_lt hla) VK _ _ _ (hVk.step hbv2) rx).mono ?_
          rintro e v3 ⟨V2, rfl, NS, hbv30⟩
          have hbv3 := below_trans hbv2 hbv30
          have kN := kN.step hbv30
          clear rx hbv30
          refine ⟨_, rfl, ⟨hbv3, kr.step hbv3⟩, ?_⟩
          simp only [Act.put, List.setIfInBounds_toArray, List.set_cons_zero, List.set_cons_succ]
          repeat
            apply wpPlan_read (by first | rfl | (rw [hY]; rfl))
            · intro w2 hS2
              (try simp only [Keeps, Cells] at hS2)
              (try simp only [HasC, Cells] at hS2)
              go_simp
              with_reducible rfl
            simp only [Act.put, List.setIfInBounds_toArray, List.set_cons_zero, List.set_cons_succ]
          refine wpPlan_storeB 26 (.tmp 11) (.tmp 25) (by rfl) (by first | rfl | (rw [hY]; rfl)) b11 (by rfl) V2 (by rfl) _ 26 kN (info_N.trans (congrArg some NS.len.symm)) NS.len.symm NS.one ?_
          intro wS ES gS sS
          have hbS : Below wr.heap.size wr wS := hbv3.trans (rowBelow gS zN hbv3.size)
          refine ⟨⟨hbS, kr.step hbS⟩, ?_⟩
          simp only [Act.put, List.setIfInBounds_toArray, List.set_cons_zero, List.set_cons_succ]
          exact wpPlan_done (fin _ _ _ wS hbS ES (NS.keep (okk.ctx (ctxL_length la)).slim kN netCs_zero gS) zN)
      · skip
        have hbv10 : Below v0.heap.size v0 (v0.alloc (.cells #[.slice none 0 0, .slice none 0 0, .slice none 0 0, .int .i64 0] 26)) := (Below.refl _ _).alloc (Nat.le_refl _) _
        have hbv1 := below_trans hbv0 hbv10
        refine wpPlan_value (by first | rfl | (rw [hY]; rfl)) (by go_simp; first | with_reducible exact ⟨rfl, rfl⟩ | with_reducible rfl) ((show Below wr.heap.size wr (v0.alloc (.cells #[.slice none 0 0, .slice none 0 0, .slice none 0 0, .int .i64 0] 26)) ∧ Blk (v0.alloc (.cells #[.slice none 0 0, .slice none 0 0, .slice none 0 0, .int .i64 0] 26)) w.heap.size VK 26 from ⟨hbv1, kr.step hbv1⟩)) ?_
        simp only [Act.put, List.setIfInBounds_toArray, List.set_cons_zero, List.set_cons_succ]
        have kN := Blk.new v0 [.slice none 0 0, .slice none 0 0, .slice none 0 0, .int .i64 0] 26
        have zN : wr.heap.size ≤ v0.heap.size := hbv0.size
        obtain ⟨b11, hb11⟩ : ∃ x, v0.heap.size = x := ⟨_, rfl⟩
        clear hbv10
        rw [hb11] at kN zN ⊢
        obtain ⟨v1, hv1⟩ : ∃ v, (v0.alloc (.cells #[.slice none 0 0, .slice none 0 0, .slice none 0 0, .int .i64 0] 26)) = v := ⟨_, rfl⟩
        rw [hv1] at hbv1 kN ⊢
        repeat
          apply wpPlan_read (by first | rfl | (rw [hY]; rfl))
          · intro w2 hS2
            (try simp only [Keeps, Cells] at hS2)
            (try simp only [HasC, Cells] at hS2)
            go_simp
            with_reducible rfl
          simp only [Act.put, List.setIfInBounds_toArray, List.set_cons_zero, List.set_cons_succ]
        apply wpPlan_call (by first | rfl | (rw [hY]; rfl))
        · go_simp
          with_reducible exact ⟨rfl, rfl⟩
        refine (lawContext14 la hla _).mono ?_
        rintro e v2 ⟨gc, rfl, rx, hbv20⟩
        have hbv2 := below_trans hbv1 hbv20
        have kN := kN.step hbv20
        clear hbv20
        refine ⟨_, rfl, ⟨hbv2, kr.step hbv2⟩, ?_⟩
        simp only [Act.put, List.setIfInBounds_toArray, List.set_cons_zero, List.set_cons_succ]
        repeat
          apply wpPlan_read (by first | rfl | (rw [hY]; rfl))
          · intro w2 hS2
            (try simp only [Keeps, Cells] at hS2)
            (try simp only [HasC, Cells] at hS2)
            go_simp
            with_reducible rfl
          simp only [Act.put, List.setIfInBounds_toArray, List.set_cons_zero, List.set_cons_succ]
        apply wpPlan_call (by first | rfl | (rw [hY]; rfl))
        · go_simp
          with_reducible exact ⟨rfl, rfl⟩
        refine (ctx_dN okk (ctxL_length la) (ctxL_lt hla) VK _ _ _ (hVk.step hbv2) rx).mono ?_
        rintro e v3 ⟨V2, rfl, NS, hbv30⟩
        have hbv3 := below_trans hbv2 hbv30
        have kN := kN.step hbv30
        clear rx hbv30
        refine ⟨_, rfl, ⟨hbv3, kr.step hbv3⟩, ?_⟩
        simp only [Act.put, List.setIfInBounds_toArray, List.set_cons_zero, List.set_cons_succ]
        repeat
          apply wpPlan_read (by first | rfl | (rw [hY]; rfl))
          · intro w2 hS2
            (try simp only [Keeps, Cells] at hS2)
            (try simp only [HasC, Cells] at hS2)
            go_simp
            with_reducible rfl
          simp only [Act.put, List.setIfInBounds_toArray, List.set_cons_zero, List.set_cons_succ]
        refine wpPlan_storeB 26 (.tmp 11) (.tmp 25) (by rfl) (by first | rfl | (rw [hY]; rfl)) b11 (by rfl) V2 (by rfl) _ 26 kN (info_N.trans (congrArg some NS.len.symm)) NS.len.symm NS.one ?_
        intro wS ES gS sS
        have hbS : Below wr.heap.size wr wS := hbv3.trans (rowBelow gS zN hbv3.size)
        refine ⟨⟨hbS, kr.step hbS⟩, ?_⟩
        simp only [Act.put, List.setIfInBounds_toArray, List.set_cons_zero, List.set_cons_succ]
        exact wpPlan_done (fin _ _ _ wS hbS ES (NS.keep (okk.ctx (ctxL_length la)).slim kN netCs_zero gS) zN)
    · obtain rfl : k = n := by omega
      have hVKl := Lib.hid hVk.len
      go_wp2_with fail
      refine wp_region_plan 4 2 (.read 0 (.read 1 (.read 2 (.one 3 .done)))) _ _ o0P (fun K => Blk K w.heap.size VK 26) (by kernel_rfl) (List.take_append_drop 4 _).symm (by kernel_rfl) (by kernel_rfl) (by kernel_rfl) (by kernel_rfl) (kr.drew) (fun Y Q4 F4 hY hF => ?_)
      simp only [Plan.map, List.take_succ_cons, List.take_zero, List.drop_succ_cons, List.drop_zero, List.getD_cons_zero, List.getD_cons_succ]
      repeat
        apply wpPlan_read (by first | rfl | (rw [hY]; rfl))
        · intro w2 hS2
          (try simp only [Keeps, Cells] at hS2)
          (try simp only [HasC, Cells] at hS2)
          go_simp
          with_reducible rfl
        simp only [Act.put, List.setIfInBounds_toArray, List.set_cons_zero, List.set_cons_succ]
      refine wpPlan_read (by first | rfl | (rw [hY]; rfl)) (fun w2 hS2 => exec_loadB 26 (.tmp 3) (by rfl) w.heap.size (by rfl) VK hS2.cells _ Tryz.underlying26 rfl (info_N.trans (congrArg some hVKl.out.symm))) ?_
      simp only [Act.put, List.setIfInBounds_toArray, List.set_cons_zero, List.set_cons_succ]
      repeat
        apply wpPlan_read (by first | rfl | (rw [hY]; rfl))
        · intro w2 hS2
          (try simp only [Keeps, Cells] at hS2)
          (try simp only [HasC, Cells] at hS2)
          go_simp
          with_reducible rfl
        simp only [Act.put, List.setIfInBounds_toArray, List.set_cons_zero, List.set_cons_succ]
      refine wpPlan_read (by first | rfl | (rw [hY]; rfl)) (fun w2 hS2 => exec_loadB 26 (.tmp 3) (by rfl) w.heap.size (by rfl) VK hS2.cells _ Tryz.underlying26 rfl (info_N.trans (congrArg some hVKl.out.symm))) ?_
      simp only [Act.put, List.setIfInBounds_toArray, List.set_cons_zero, List.set_cons_succ]
      repeat
        apply wpPlan_read (by first | rfl | (rw [hY]; rfl))
        · intro w2 hS2
          (try simp only [Keeps, Cells] at hS2)
          (try simp only [HasC, Cells] at hS2)
          go_simp
          with_reducible rfl
        simp only [Act.put, List.setIfInBounds_toArray, List.set_cons_zero, List.set_cons_succ]
      apply wpPlan_call (by first | rfl | (rw [hY]; rfl))
      · go_simp
        with_reducible exact ⟨rfl, rfl⟩
      refine (lawTrue14 VK _).mono ?_
      rintro e w5 ⟨rfl, hb5⟩
      have hb5w : Below wr.heap.size wr w5 := (Below.refl _ _).drew.trans hb5
      have k5 := kr.step hb5w
      have r5 := rr.step hb5w
      have N5 := hVk.step hb5w
      have B5 := below_trans hB hb5w
      have VKo := Lib.hid hVk.one
      clear hb5 hb5w
      refine ⟨_, rfl, k5, ?_⟩
      simp only [Act.put, List.setIfInBounds_toArray, List.set_cons_zero, List.set_cons_succ]
      refine wpPlan_done (hF _ _ (fun K2 hK2 => ?_))
      clear hF hY kr rr hVk hB
      have HK2 := Lib.hid hK2
      clear hK2
      refine wpList_storeB 26 (.tmp 6) (.tmp 55) (by rfl) (by rfl) (w.heap.size + 1) (by rfl) VK (by rfl) _ 26 r5 (info_N.trans (congrArg some hVKl.out.symm)) hVKl.out.symm VKo.out ?_
      intro wR ER gR sR
      go_wp2_with fail
      refine OnlyK.mk (HK2.out _ _ ?_)
      go_wp2_with fail
      have hL := run_loadVar_mid wR _ 0 _ _ _ ER.cells Tryz.underlying26 rfl (info_N.trans (congrArg some hVKl.out.symm))
      refine bodyPost_ret (v := .tuple #[.agg VK.toArray, .bool true]) ?_ rfl ?_
      · exact results_cell2 (show Tryz.f30.results = #[.cell 6 26, .tmp 7] from rfl) (p := ⟨w.heap.size + 1, 0, none⟩) rfl rfl hL
      · exact ⟨VK, ck, xk, rfl, okk, N5.keep okk.slim r5 netCs_zero gR, B5.trans (rowBelow gR (by omega) B5.size)⟩
end Go.Proofs.YtieeogndnhighaaGreat
set_option linter.unusedSimpArgs false
set_option linter.unusedVariables false
set_option linter.unusedSectionVars false
namespace Go.Proofs.YtieeogndnhighaaGreat
open Go.RowKit

theorem NetIs.part {N : S14.N} {VS : List Value} {w : World} (h : NetIs N VS w) : VS[3]? = some (.int .i64 N.part) := by
  obtain ⟨L, rfl, _⟩ := h
  rfl
theorem rd_dC14 (b : Nat) (w : World) : Rd (w.alloc (.cells #[.int .i64 1, .int .i64 (b : Int), .int .i64 30, .int .i64 0, .int .i64 0, .int .i64 0] 54)) (some ⟨w.heap.size, 0, none⟩) (Cs14 [dC b]) := Rd.new w [.int .i64 1, .int .i64 (b : Int), .int .i64 30, .int .i64 0, .int .i64 0, .int .i64 0] _
theorem b01_true : (1 : Int) = 0 ∨ (1 : Int) = 1 := .inr rfl
theorem b01_false : (0 : Int) = 0 ∨ (0 : Int) = 1 := .inl rfl
theorem next_first14 {bit : Int} (hb : bit = 0 ∨ bit = 1) : S14.next 1 bit = 2 + bit := by
  unfold S14.next
  rcases hb with rfl | rfl <;> rfl

set_option maxRecDepth 100000 in
set_option maxHeartbeats 20000000 in
theorem networkConfirms_true (q : Nat) (data : List Int) (a : Option Addr) (cap : Nat) (w : World) (hq : q < 256) (h16 : data.length ≤ 16) (hd : ∀ x ∈ data, 0 ≤ x ∧ x < 256) (hrd : Rd w a (Bts data)) :
    Calls Tryz.prog 9 #[.int .u8 (q : Int), .slice a data.length cap, .bool true] w fun e w' => e = .returned (.bool true) ∧ Below w.heap.size w w' := by
  have HA := Lib.hid fun W => awake14_any W
  obtain ⟨b, hbq⟩ : ∃ b, q % 7 = b := ⟨_, rfl⟩
  have hb7 : b < 7 := by omega
  have hbz : (q : Int) % 7 = (b : Int) := by omega
  have HF := Lib.hid fun (cs : List (Int × Int)) (xs : List Nat) (VS : List Value) (W : World) (hb : Below w.heap.size w W) (hok : OkN b cs xs 1) (hV : NetIs (dN b cs xs 1) VS W) => feed14_dN data hok VS a cap W hV hd h16 (hrd.step hb)
  obtain ⟨n, hn⟩ : ∃ n, data.length = n := ⟨_, rfl⟩
  rw [hn] at HF h16 ⊢
  have hnz : ¬ (16 : Int) < n := by omega
  clear hn hrd hd
  go_enter Tryz.func9, Tryz.ntmps9
  go_wp2_with fail
  refine (new_dN hb7 _ _ _ (rd_dC14 b w)).mono ?_
  rintro e w2 ⟨V1, rfl, N1, hb2⟩
  have B2 : Below w.heap.size w w2 := below_trans ((Below.refl _ _).alloc (Nat.le_refl _) _) hb2
  clear hb2
  obtain ⟨b1, eb1⟩ : ∃ b, w2.heap.size = b := ⟨_, rfl⟩
  obtain ⟨a1, ea1⟩ : ∃ W, w2.alloc (.cells #[.slice none 0 0, .slice none 0 0, .slice none 0 0, .int .i64 0] 26) = W := ⟨_, rfl⟩
  have F1 : Blk a1 b1 [.slice none 0 0, .slice none 0 0, .slice none 0 0, .int .i64 0] 26 := by rw [← ea1, ← eb1]; exact Blk.new w2 _ _
  have ba1 : Below w2.heap.size w2 a1 := by rw [← ea1]; exact (Below.refl _ _).alloc (Nat.le_refl _) _
  have hb1w : w.heap.size ≤ b1 := by rw [← eb1]; exact B2.size
  have B2a := below_trans B2 ba1
  have N1 := N1.step ba1
  have V1l := Lib.hid N1.len
  have V1o := Lib.hid N1.one
  have ok1 := OkN.start hb7
  go_wp2_with (first
      | (rw [ea1, eb1])
      | (rw [ea1])
      | (refine wpList_storeB 26 (.tmp 7) (.tmp 28) (by rfl) (by rfl) b1 (by rfl) V1 (by rfl) _ 26 F1 (info_N.trans (congrArg some V1l.out.symm)) V1l.out.symm V1o.out ?_
         intro s1 E1 g1 z1; clear z1)
      | (refine wpList_loadB 26 (.tmp 7) (by rfl) (by rfl) b1 (by rfl) V1 26 E1 _ Tryz.underlying26 rfl (info_N.trans (congrArg some V1l.out.symm)) ?_))
  have BS1 := B2a.trans (rowBelow g1 hb1w B2a.size)
  have N1 := N1.keep ok1.slim F1 netCs_zero g1
  refine (HF.out _ _ V1 _ BS1 ok1 N1).mono ?_
  rintro e w3 ⟨V3, cs, xs, rfl, ok3, N3, hb3⟩
  have B3 := below_trans BS1 hb3
  have E3 := E1.step hb3
  have hcs1 := N1.cs
  have V3l := Lib.hid N3.len
  have V3o := Lib.hid N3.one
  clear E1 F1 N1 ea1 eb1 B2 B2a V1o BS1 g1 ba1 hb3 HF ok1
  go_wp2_with (first
      | (refine wpList_storeB 26 (.tmp 7) (.tmp 36) (by rfl) (by rfl) b1 (by rfl) V3 (by rfl) _ 26 E3 (info_N.trans (congrArg some V3l.out.symm)) (V1l.out.trans V3l.out.symm) V3o.out ?_
         intro s3 G3 g3 z3; clear z3)
      | (refine wpList_loadB 26 (.tmp 7) (by rfl) (by rfl) b1 (by rfl) V3 26 G3 _ Tryz.underlying26 rfl (info_N.trans (congrArg some V3l.out.symm)) ?_))
  have BS3 := B3.trans (rowBelow g3 hb1w B3.size)
  have N3 := N3.keep ok3.slim E3 hcs1 g3
  clear E3 hcs1 B3 g3 V1l
  refine (pred_dN ok3 V3 _ N3).mono ?_
  rintro e w4 ⟨rfl, hb4⟩
  have B4 := below_trans BS3 hb4
  have G4 := G3.step hb4
  have N4 := N3.step hb4
  clear hb4 BS3 G3 N3
  obtain ⟨P0, hP0⟩ : ∃ P, pN b cs xs 1 = P := ⟨_, rfl⟩
  rw [hP0]
  have HP0 := Lib.hid hP0
  clear hP0
  obtain ⟨b5, eb5⟩ : ∃ b, w4.heap.size = b := ⟨_, rfl⟩
  obtain ⟨a5, ea5⟩ : ∃ W, w4.alloc (.cells #[.slice none 0 0, .slice none 0 0, .slice none 0 0, .int .i64 0] 26) = W := ⟨_, rfl⟩
  have F5 : Blk a5 b5 [.slice none 0 0, .slice none 0 0, .slice none 0 0, .int .i64 0] 26 := by rw [← ea5, ← eb5]; exact Blk.new w4 _ _
  have ba5 : Below w4.heap.size w4 a5 := by rw [← ea5]; exact (Below.refl _ _).alloc (Nat.le_refl _) _
  have hb5w : w.heap.size ≤ b5 := by rw [← eb5]; exact B4.size
  have B5 := below_trans B4 ba5
  have N5 := N4.step ba5
  go_wp2_with (first
      | (rw [ea5, eb5])
      | (rw [ea5])
      | (refine wpList_loadB 26 (.tmp 7) (by rfl) (by rfl) b1 (by rfl) V3 26 G4 _ Tryz.underlying26 rfl (info_N.trans (congrArg some V3l.out.symm)) ?_)
      | (refine wpList_storeB 26 (.tmp 13) (.tmp 44) (by rfl) (by rfl) b5 (by rfl) V3 (by rfl) _ 26 F5 (info_N.trans (congrArg some V3l.out.symm)) V3l.out.symm V3o.out ?_
         intro s5 E5 g5 z5; clear z5))
  have BS5 := B5.trans (rowBelow g5 hb5w B5.size)
  have N5 := N5.keep ok3.slim F5 netCs_zero g5
  clear F5 ba5 B5 g5 B4 G4 N4 ea5 eb5 V3l V3o
  have HOK := Lib.hid ok3
  go_loopw [45] (fun i wi => ∃ (j : Nat) (VJ : List Value) (cj : List (Int × Int)) (p : Int), j ≤ 8 ∧ i = .int .i64 (j : Int) ∧ OkN b cj xs p ∧ Hid (PartAt j p) ∧ Hid (Toward 1 cs cj) ∧ NetIs (dN b cj xs p) VJ wi ∧ Blk wi b5 VJ 26 ∧ Below w.heap.size w wi) (fun i _ => 8 - (intOf i).toNat)
  case atStart => exact ⟨0, V3, cs, 1, by omega, rfl, ok3, Lib.hid PartAt.zero, Lib.hid (Toward.refl _ _), N5, E5, BS5⟩
  case round =>
    clear N5 E5 BS5 ok3
    obtain ⟨j, VJ, cj, p, hj, rfl, okj, hpj, htw, Nj, Ej, Bj⟩ := hrel
    by_cases hj8 : j < 8
    · have hjz : (j : Int) < 8 := by omega
      have VJl := Lib.hid Nj.len
      have ok6 := okj.learn b01_true
      have p6 := Lib.hid (hpj.out.next hj8 b01_true)
      have t6 := Lib.hid (htw.out.upd okj.ok b01_true (iN b xs p))
      go_wp2_with (first
        | (refine wpList_loadB 26 (.tmp 13) (by rfl) (by rfl) b5 (by rfl) VJ 26 Ej _ Tryz.underlying26 rfl (info_N.trans (congrArg some VJl.out.symm)) ?_))
      refine (learn_dN okj b01_true VJ _ Nj).mono ?_
      rintro e w6 ⟨V6, rfl, N6, hb6⟩
      have E6 := Ej.step hb6
      have B6 := below_trans Bj hb6
      have hcs6 := Nj.cs
      have V6l := Lib.hid N6.len
      have V6o := Lib.hid N6.one
      have c3 := N6.part
      clear Nj Ej Bj okj htw hb6
      by_cases hj0 : j = 0
      · subst hj0
        obtain rfl : p = 1 := by rcases hpj.out with h | h <;> omega
        have hp3 : (dN b (uN b cj xs 1 1) xs (S14.next 1 1)).part = 2 + 1 := next_first14 b01_true
        rw [hp3] at c3
        go_wp2_with (first
          | (refine wpList_storeB 26 (.tmp 13) (.tmp 52) (by rfl) (by rfl) b5 (by rfl) V6 (by rfl) _ 26 E6 (info_N.trans (congrArg some V6l.out.symm)) (VJl.out.trans V6l.out.symm) V6o.out ?_
             intro s6 G6 g6 z6; clear z6
             have d3 := (G6.cell 3).trans c3))
        have NS6 := N6.keep ok6.slim E6 hcs6 g6
        have BS6 := B6.trans (rowBelow g6 hb5w B6.size)
        go_roundw
        case rel => exact ⟨1, V6, _, _, by omega, by simp, ok6, p6, t6, NS6, G6, BS6⟩
        case measure => simp [intOf]
      · have hj0z : ¬ (j : Int) = 0 := by omega
        go_wp2_with (first
          | (refine wpList_storeB 26 (.tmp 13) (.tmp 52) (by rfl) (by rfl) b5 (by rfl) V6 (by rfl) _ 26 E6 (info_N.trans (congrArg some V6l.out.symm)) (VJl.out.trans V6l.out.symm) V6o.out ?_
             intro s6 G6 g6 z6; clear z6))
        have NS6 := N6.keep ok6.slim E6 hcs6 g6
        have BS6 := B6.trans (rowBelow g6 hb5w B6.size)
        go_roundw
        case rel => exact ⟨j + 1, V6, _, _, by omega, by simp, ok6, p6, t6, NS6, G6, BS6⟩
        case measure => simp [intOf]; omega
    · obtain rfl : j = 8 := by omega
      obtain rfl := hpj.out.one
      have VJl := Lib.hid Nj.len
      have hmono := (pN_toward (b := b) (xs := xs) (p := 1) htw.out HOK.out.ok okj.ok).1 rfl
      rw [HP0.out] at hmono
      go_wp2_with (first
        | (refine wpList_loadB 26 (.tmp 13) (by rfl) (by rfl) b5 (by rfl) VJ 26 Ej _ Tryz.underlying26 rfl (info_N.trans (congrArg some VJl.out.symm)) ?_))
      refine (pred_dN okj VJ _ Nj).mono ?_
      rintro e w7 ⟨rfl, hb7'⟩
      have B7 := below_trans Bj hb7'
      obtain ⟨P1, hP1⟩ : ∃ P, pN b cj xs 1 = P := ⟨_, rfl⟩
      rw [hP1] at hmono
      rw [hP1]
      clear hP1 Nj Ej Bj hb7'
      go_wp2_with fail
      refine (HA.out _).mono ?_
      rintro e w8 ⟨rfl, hb8⟩
      have B8 := below_trans B7 hb8
      go_wp2_with fail
      go_returns
      exact ⟨rfl, B8⟩
set_option maxRecDepth 100000 in
set_option maxHeartbeats 20000000 in
theorem networkConfirms_false (q : Nat) (data : List Int) (a : Option Addr) (cap : Nat) (w : World) (hq : q < 256) (h16 : data.length ≤ 16) (hd : ∀ x ∈ data, 0 ≤ x ∧ x < 256) (hrd : Rd w a (Bts data)) :
    Calls Tryz.prog 9 #[.int .u8 (q : Int), .slice a data.length cap, .bool false] w fun e w' => e = .returned (.bool true) ∧ Below w.heap.size w w' := by
  have HA := Lib.hid fun W => awake14_any W
  obtain ⟨b, hbq⟩ : ∃ b, q % 7 = b := ⟨_, rfl⟩
  have hb7 : b < 7 := by omega
  have hbz : (q : Int) % 7 = (b : Int) := by omega
  have HF := Lib.hid fun (cs : List (Int × Int)) (xs : List Nat) (VS : List Value) (W : World) (hb : Below w.heap.size w W) (hok : OkN b cs xs 1) (hV : NetIs (dN b cs xs 1) VS W) => feed14_dN data hok VS a cap W hV hd h16 (hrd.step hb)
  obtain ⟨n, hn⟩ : ∃ n, data.length = n := ⟨_, rfl⟩
  rw [hn] at HF h16 ⊢
  have hnz : ¬ (16 : Int) < n := by omega
  clear hn hrd hd
  go_enter Tryz.func9, Tryz.ntmps9
  go_wp2_with fail
  refine (new_dN hb7 _ _ _ (rd_dC14 b w)).mono ?_
  rintro e w2 ⟨V1, rfl, N1, hb2⟩
  have B2 : Below w.heap.size w w2 := below_trans ((Below.refl _ _).alloc (Nat.le_refl _) _) hb2
  clear hb2
  obtain ⟨b1, eb1⟩ : ∃ b, w2.heap.size = b := ⟨_, rfl⟩
  obtain ⟨a1, ea1⟩ : ∃ W, w2.alloc (.cells #[.slice none 0 0, .slice none 0 0, .slice none 0 0, .int .i64 0] 26) = W := ⟨_, rfl⟩
  have F1 : Blk a1 b1 [.slice none 0 0, .slice none 0 0, .slice none 0 0, .int .i64 0] 26 := by rw [← ea1, ← eb1]; exact Blk.new w2 _ _
  have ba1 : Below w2.heap.size w2 a1 := by rw [← ea1]; exact (Below.refl _ _).alloc (Nat.le_refl _) _
  have hb1w : w.heap.size ≤ b1 := by rw [← eb1]; exact B2.size
  have B2a := below_trans B2 ba1
  have N1 := N1.step ba1
  have V1l := Lib.hid N1.len
  have V1o := Lib.hid N1.one
  have ok1 := OkN.start hb7
  go_wp2_with (first
      | (rw [ea1, eb1])
      | (rw [ea1])
      | (refine wpList_storeB 26 (.tmp 7) (.tmp 28) (by rfl) (by rfl) b1 (by rfl) V1 (by rfl) _ 26 F1 (info_N.trans (congrArg some V1l.out.symm)) V1l.out.symm V1o.out ?_
         intro s1 E1 g1 z1; clear z1)
      | (refine wpList_loadB 26 (.tmp 7) (by rfl) (by rfl) b1 (by rfl) V1 26 E1 _ Tryz.underlying26 rfl (info_N.trans (congrArg some V1l.out.symm)) ?_))
  have BS1 := B2a.trans (rowBelow g1 hb1w B2a.size)
  have N1 := N1.keep ok1.slim F1 netCs_zero g1
  refine (HF.out _ _ V1 _ BS1 ok1 N1).mono ?_
  rintro e w3 ⟨V3, cs, xs, rfl, ok3, N3, hb3⟩
  have B3 := below_trans BS1 hb3
  have E3 := E1.step hb3
  have hcs1 := N1.cs
  have V3l := Lib.hid N3.len
  have V3o := Lib.hid N3.one
  clear E1 F1 N1 ea1 eb1 B2 B2a V1o BS1 g1 ba1 hb3 HF ok1
  go_wp2_with (first
      | (refine wpList_storeB 26 (.tmp 7) (.tmp 36) (by rfl) (by rfl) b1 (by rfl) V3 (by rfl) _ 26 E3 (info_N.trans (congrArg some V3l.out.symm)) (V1l.out.trans V3l.out.symm) V3o.out ?_
         intro s3 G3 g3 z3; clear z3)
      | (refine wpList_loadB 26 (.tmp 7) (by rfl) (by rfl) b1 (by rfl) V3 26 G3 _ Tryz.underlying26 rfl (info_N.trans (congrArg some V3l.out.symm)) ?_))
  have BS3 := B3.trans (rowBelow g3 hb1w B3.size)
  have N3 := N3.keep ok3.slim E3 hcs1 g3
  clear E3 hcs1 B3 g3 V1l
  refine (pred_dN ok3 V3 _ N3).mono ?_
  rintro e w4 ⟨rfl, hb4⟩
  have B4 := below_trans BS3 hb4
  have G4 := G3.step hb4
  have N4 := N3.step hb4
  clear hb4 BS3 G3 N3
  obtain ⟨P0, hP0⟩ : ∃ P, pN b cs xs 1 = P := ⟨_, rfl⟩
  rw [hP0]
  have HP0 := Lib.hid hP0
  clear hP0
  obtain ⟨b5, eb5⟩ : ∃ b, w4.heap.size = b := ⟨_, rfl⟩
  obtain ⟨a5, ea5⟩ : ∃ W, w4.alloc (.cells #[.slice none 0 0, .slice none 0 0, .slice none 0 0, .int .i64 0] 26) = W := ⟨_, rfl⟩
  have F5 : Blk a5 b5 [.slice none 0 0, .slice none 0 0, .slice none 0 0, .int .i64 0] 26 := by rw [← ea5, ← eb5]; exact Blk.new w4 _ _
  have ba5 : Below w4.heap.size w4 a5 := by rw [← ea5]; exact (Below.refl _ _).alloc (Nat.le_refl _) _
  have hb5w : w.heap.size ≤ b5 := by rw [← eb5]; exact B4.size
  have B5 := below_trans B4 ba5
  have N5 := N4.step ba5
  go_wp2_with (first
      | (rw [ea5, eb5])
      | (rw [ea5])
      | (refine wpList_loadB 26 (.tmp 7) (by rfl) (by rfl) b1 (by rfl) V3 26 G4 _ Tryz.underlying26 rfl (info_N.trans (congrArg some V3l.out.symm)) ?_)
      | (refine wpList_storeB 26 (.tmp 13) (.tmp 44) (by rfl) (by rfl) b5 (by rfl) V3 (by rfl) _ 26 F5 (info_N.trans (congrArg some V3l.out.symm)) V3l.out.symm V3o.out ?_
         intro s5 E5 g5 z5; clear z5))
  have BS5 := B5.trans (rowBelow g5 hb5w B5.size)
  have N5 := N5.keep ok3.slim F5 netCs_zero g5
  clear F5 ba5 B5 g5 B4 G4 N4 ea5 eb5 V3l V3o
  have HOK := Lib.hid ok3
  go_loopw [45] (fun i wi => ∃ (j : Nat) (VJ : List Value) (cj : List (Int × Int)) (p : Int), j ≤ 8 ∧ i = .int .i64 (j : Int) ∧ OkN b cj xs p ∧ Hid (PartAt j p) ∧ Hid (Toward 0 cs cj) ∧ NetIs (dN b cj xs p) VJ wi ∧ Blk wi b5 VJ 26 ∧ Below w.heap.size w wi) (fun i _ => 8 - (intOf i).toNat)
  case atStart => exact ⟨0, V3, cs, 1, by omega, rfl, ok3, Lib.hid PartAt.zero, Lib.hid (Toward.refl _ _), N5, E5, BS5⟩
  case round =>
    clear N5 E5 BS5 ok3
    obtain ⟨j, VJ, cj, p, hj, rfl, okj, hpj, htw, Nj, Ej, Bj⟩ := hrel
    by_cases hj8 : j < 8
    · have hjz : (j : Int) < 8 := by omega
      have VJl := Lib.hid Nj.len
      have ok6 := okj.learn b01_false
      have p6 := Lib.hid (hpj.out.next hj8 b01_false)
      have t6 := Lib.hid (htw.out.upd okj.ok b01_false (iN b xs p))
      go_wp2_with (first
        | (refine wpList_loadB 26 (.tmp 13) (by rfl) (by rfl) b5 (by rfl) VJ 26 Ej _ Tryz.underlying26 rfl (info_N.trans (congrArg some VJl.out.symm)) ?_))
      refine (learn_dN okj b01_false VJ _ Nj).mono ?_
      rintro e w6 ⟨V6, rfl, N6, hb6⟩
      have E6 := Ej.step hb6
      have B6 := below_trans Bj hb6
      have hcs6 := Nj.cs
      have V6l := Lib.hid N6.len
      have V6o := Lib.hid N6.one
      have c3 := N6.part
      clear Nj Ej Bj okj htw hb6
      by_cases hj0 : j = 0
      · subst hj0
        obtain rfl : p = 1 := by rcases hpj.out with h | h <;> omega
        have hp3 : (dN b (uN b cj xs 1 0) xs (S14.next 1 0)).part = 2 + 0 := next_first14 b01_false
        rw [hp3] at c3
        go_wp2_with (first
          | (refine wpList_storeB 26 (.tmp 13) (.tmp 52) (by rfl) (by rfl) b5 (by rfl) V6 (by rfl) _ 26 E6 (info_N.trans (congrArg some V6l.out.symm)) (VJl.out.trans V6l.out.symm) V6o.out ?_
             intro s6 G6 g6 z6; clear z6
             have d3 := (G6.cell 3).trans c3))
        have NS6 := N6.keep ok6.slim E6 hcs6 g6
        have BS6 := B6.trans (rowBelow g6 hb5w B6.size)
        go_roundw
        case rel => exact ⟨1, V6, _, _, by omega, by simp, ok6, p6, t6, NS6, G6, BS6⟩
        case measure => simp [intOf]
      · have hj0z : ¬ (j : Int) = 0 := by omega
        go_wp2_with (first
          | (refine wpList_storeB 26 (.tmp 13) (.tmp 52) (by rfl) (by rfl) b5 (by rfl) V6 (by rfl) _ 26 E6 (info_N.trans (congrArg some V6l.out.symm)) (VJl.out.trans V6l.out.symm) V6o.out ?_
             intro s6 G6 g6 z6; clear z6))
        have NS6 := N6.keep ok6.slim E6 hcs6 g6
        have BS6 := B6.trans (rowBelow g6 hb5w B6.size)
        go_roundw
        case rel => exact ⟨j + 1, V6, _, _, by omega, by simp, ok6, p6, t6, NS6, G6, BS6⟩
        case measure => simp [intOf]; omega
    · obtain rfl : j = 8 := by omega
      obtain rfl := hpj.out.one
      have VJl := Lib.hid Nj.len
      have hmono := (pN_toward (b := b) (xs := xs) (p := 1) htw.out HOK.out.ok okj.ok).2 rfl
      rw [HP0.out] at hmono
      go_wp2_with (first
        | (refine wpList_loadB 26 (.tmp 13) (by rfl) (by rfl) b5 (by rfl) VJ 26 Ej _ Tryz.underlying26 rfl (info_N.trans (congrArg some VJl.out.symm)) ?_))
      refine (pred_dN okj VJ _ Nj).mono ?_
      rintro e w7 ⟨rfl, hb7'⟩
      have B7 := below_trans Bj hb7'
      obtain ⟨P1, hP1⟩ : ∃ P, pN b cj xs 1 = P := ⟨_, rfl⟩
      rw [hP1] at hmono
      rw [hP1]
      clear hP1 Nj Ej Bj hb7'
      go_wp2_with fail
      refine (HA.out _).mono ?_
      rintro e w8 ⟨rfl, hb8⟩
      have B8 := below_trans B7 hb8
      go_wp2_with fail
      go_returns
      exact ⟨rfl, B8⟩

theorem networkConfirms_any (q : Nat) (data : List Int) (bit : Bool) (a : Option Addr) (cap : Nat) (w : World) (hq : q < 256) (hd : ∀ x ∈ data, 0 ≤ x ∧ x < 256) (hrd : Rd w a (Bts data)) :
    Calls Tryz.prog 9 #[.int .u8 (q : Int), .slice a data.length cap, .bool bit] w fun e w' => e = .returned (.bool true) ∧ Below w.heap.size w w' := by
  by_cases h16 : data.length ≤ 16
  · cases bit
    · exact networkConfirms_false q data a cap w hq h16 hd hrd
    · exact networkConfirms_true q data a cap w hq h16 hd hrd
  · have HA := Lib.hid fun W => awake14_any W
    have hnz : (16 : Int) < data.length := by omega
    clear hrd hd
    generalize data.length = n at *
    go_enter Tryz.func9, Tryz.ntmps9
    go_wp2_with fail
    refine (HA.out _).mono ?_
    rintro e w1 ⟨rfl, hb1⟩
    have hB1 : Below w.heap.size w w1 := below_trans (by go_grown) hb1
    have z1 : w.heap.size ≤ w1.heap.size := hB1.size
    go_wp2
    go_returns
    exact ⟨rfl, hB1⟩
end Go.Proofs.YtieeogndnhighaaGreat
