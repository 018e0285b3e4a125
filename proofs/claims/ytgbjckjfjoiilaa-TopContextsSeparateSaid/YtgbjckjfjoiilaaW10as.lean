/- The law TopContextsSeparate: a visit, walked. No condition. -/
import Derived.Test.YtgbjckjfjoiilaaW10ar
import Derived.Test.YtgbjckjfjoiilaaBase18
set_option linter.unusedSimpArgs false
set_option linter.unusedVariables false
set_option linter.unusedSectionVars false
namespace Go.Proofs.Ytgbjckjfjoiilaa
open Go.RowKit Go.Maps

theorem lawInt10 : Keyed Try.prog 3 := int_keyed Try.underlying3
set_option maxRecDepth 100000 in
theorem zeroTS_run (w : World) : (zeroValue 90).run Try.prog w = .ok zeroTS w := by
  have h : (Try.prog.info? 90).bind (·.zero) = some zeroTS := by kernel_rfl
  obtain ⟨i, hi⟩ : ∃ i, Try.prog.info? 90 = some i := by
    cases hh : Try.prog.info? 90 with
    | none => rw [hh] at h; cases h
    | some i => exact ⟨i, rfl⟩
  rw [hi] at h
  have hz : i.zero = some zeroTS := h
  unfold zeroValue typeInfo
  simp [go_sem, hi, hz]
theorem or_check (c m : Nat) (hm : m < 256) : c * 16777216 ||| m = c * 16777216 + m := by
  have h := Nat.two_pow_add_eq_or_of_lt (b := m) (i := 24) (by omega) c
  rw [Nat.mul_comm] at h
  exact h.symm
theorem wrap_u32_nat {a : Nat} (h : a < 4294967296) : IntKind.u32.wrap (a : Int) = (a : Int) := by
  simp only [IntKind.wrap, IntKind.bits, IntKind.signed]
  simp
  omega
theorem bits_or_check {c m h : Nat} (hc : c < 256) (hm : m < 256) (hh : h = c * 16777216 + m) : bits .or .u32 ((c : Int) * 16777216) (m : Int) = (h : Int) := by
  have h1 : (BitVec.ofInt 32 ((c : Int) * 16777216)).toNat = c * 16777216 := by
    rw [show (c : Int) * 16777216 = ((c * 16777216 : Nat) : Int) by omega, BitVec.ofInt_natCast, BitVec.toNat_ofNat]; exact Nat.mod_eq_of_lt (by omega)
  have h2 : (BitVec.ofInt 32 (m : Int)).toNat = m := by
    rw [BitVec.ofInt_natCast, BitVec.toNat_ofNat]; exact Nat.mod_eq_of_lt (by omega)
  show IntKind.u32.wrap ((BitVec.ofInt 32 ((c : Int) * 16777216) ||| BitVec.ofInt 32 (m : Int)).toNat : Int) = _
  rw [BitVec.toNat_or, h1, h2, or_check c m hm, ← hh, wrap_u32_nat (by omega)]

theorem Blk.keptBy {w w' : World} {b : Nat} {cs : List Value} {t : TypeId} {row : Option Nat} (h : Blk w b cs t) (hg : w.grownBy w' row) (hne : some b ≠ row) : Blk w' b cs t := by
  have hl := h.lt
  unfold Blk at *
  rw [hg.block b hl hne]; exact h
theorem grown_then {w w1 w2 : World} {row : Option Nat} (h : w.grownBy w1 row) (hb : Below w.heap.size w1 w2) : w.grownBy w2 row :=
  ⟨hb.os.trans h.os, hb.tape.trans h.tape, hb.output.trans h.output, Nat.le_trans h.size hb.size, fun i hi hne => (hb.block i hi).trans (h.block i hi hne)⟩
theorem below_then {w w1 w2 : World} {row : Option Nat} (hb : Below w.heap.size w w1) (h : w1.grownBy w2 row) : w.grownBy w2 row :=
  ⟨h.os.trans hb.os, h.tape.trans hb.tape, h.output.trans hb.output, Nat.le_trans hb.size h.size, fun i hi hne => (h.block i (Nat.lt_of_lt_of_le hi hb.size) hne).trans (hb.block i hi)⟩
theorem grown_set2 (w : World) (b i j : Nat) (u v : Value) : w.grownBy ((w.setCell ⟨b, i, none⟩ u).setCell ⟨b, j, none⟩ v) (some b) :=
  ⟨rfl, rfl, rfl, by simp, fun k hk hne => by
    have hkb : ¬ k = b := fun e => hne (by rw [e])
    rw [heap_setCell_other _ ⟨b, j, none⟩ k v hkb, heap_setCell_other _ ⟨b, i, none⟩ k u hkb]⟩
theorem SeenO.keptBy {LB lo hi K : Nat} {A B : World} {row : Option Nat} {v : Value} {s : Int} (h : SeenO LB lo hi K A v s) (hg : A.grownBy B row) (hr : ∀ r, row = some r → ∃ o : Obj, A.heap[r]? = some o ∧ o.isCells = false) : SeenO LB lo hi K B v s := by
  obtain ⟨bs, a, c, h1, h2, h3⟩ := h
  exact ⟨bs, a, c, h1, h2.keptBy hg hr, h3⟩
theorem SSok.keptBy {LB lo hi K : Nat} {A B : World} {row : Option Nat} {zs : List Int} {i : Nat} {ss : List Value} (h : SSok LB lo hi K A zs i ss) (hg : A.grownBy B row) (hr : ∀ r, row = some r → ∃ o : Obj, A.heap[r]? = some o ∧ o.isCells = false) : SSok LB lo hi K B zs i ss :=
  ⟨h.len, h.zero, fun j h1 h2 => by obtain ⟨v, e, hs⟩ := h.seen j h1 h2; exact ⟨v, e, hs.keptBy hg hr⟩⟩

def zTSa : Array Value := (.int .u8 0 :: List.replicate 16 (.slice none 0 0)).toArray
set_option maxRecDepth 100000 in
theorem info_ts : (Try.prog.info? 90).map (·.size) = some 17 := by kernel_rfl
theorem alloc_ts (w : World) : (Instr.alloc 90 true (.tuple #[])).run Try.prog w = .ok (.pointer (some ⟨w.heap.size, 0, none⟩)) (w.alloc (.cells zTSa 90)) := by
  have hz := zeroTS_run w
  unfold Instr.alloc
  simp [hz, zeroTS, mkTS, zTSa, go_sem]
theorem ss_one {LB lo hi K : Nat} {w : World} {zs : List Int} {i : Nat} {ss : List Value} (h : SSok LB lo hi K w zs i ss) (c : Int) : ∀ v ∈ (Value.int .u8 c :: ss), v.oneCell' = true := fun v hv => by
  rcases List.mem_cons.1 hv with rfl | hv
  · rfl
  · obtain ⟨j, hj⟩ := List.mem_iff_getElem?.1 hv
    have hl := (List.getElem?_eq_some_iff.1 hj).1
    rw [h.len] at hl
    by_cases h0 : j = 0
    · subst h0; rw [h.zero] at hj; cases hj; rfl
    · obtain ⟨u, e, bs, a, c', rfl, _⟩ := h.seen j (by omega) (by omega)
      rw [e] at hj; cases hj; rfl

/-- The loop's relation: r nodes are still to come. -/
structure VisR (LB n i nib c m nn S Q : Nat) (F xs : List Int) (w : World) (r nd : Nat) (zs : List Int) (az : Option Addr) (cz : Nat) (ss : List Value) (wr : World) : Prop where
  good : Good n zs
  nd1 : 1 ≤ nd
  nd2 : (nd + 1) * 2 ^ r ≤ 32
  go : S10.visGo i nib r zs nd = F
  out : ∀ q, q < 16 * i ∨ 16 * i + 16 ≤ q → zs.getD q 0 = xs.getD q 0
  chk : zs.getD (16 * i) 0 = (c : Int)
  tab : Tab zs az cz wr
  fr : ∀ b o, az = some ⟨b, o, none⟩ → S + 3 ≤ b ∧ ¬ b = Q
  A : Blk wr S [.int .i64 (n : Int), .slice az zs.length cz] 26
  B : Blk wr (S + 1) [.int .u8 (c : Int), .int .u8 (m : Int), .int .u8 (nib : Int)] 34
  C : Blk wr (S + 1 + 1) [.int .i64 0, .slice none 0 0] 26
  E : Blk wr Q (.int .u8 (c : Int) :: ss) 90
  ss : SSok LB S (S + 3) (4 * nn + (4 - r)) wr zs i ss
  bel : Below w.heap.size w wr
  q : S + 3 ≤ Q



set_option maxRecDepth 100000 in
set_option maxHeartbeats 2000000 in
theorem tryVisit10_any (n : Nat) (xs : List Int) (hg : Good n xs) (c m nib : Nat) (hc : c < 256) (hm : m < 256) (hnib : nib < 256) (a : Option Addr) (cap : Nat) (bm nn : Nat) (hnn : nn < 1000) (D : DataW Value) (w : World) (LB : Nat) (hLB : LB ≤ w.heap.size)
    (hT : Tab xs a cap w) (hM : w.ownsMap Try.prog 3 TR bm nn D) (hOK : MapOK LB (4 * nn) n xs w D) :
    Calls Try.prog 14 #[tabV (n : Int) xs a cap, .map (some bm), .agg #[.int .u8 (c : Int), .int .u8 (m : Int), .int .u8 (nib : Int)]] w fun e w' => ∃ a' cap', e = .returned (.tuple #[tabV (n : Int) (S10.visX n xs (c * 16777216 + m) nib) a' cap', .bool true]) ∧
      Tab (S10.visX n xs (c * 16777216 + m) nib) a' cap' w' ∧ Fr a' w.heap.size ∧ (∃ D', w'.ownsMap Try.prog 3 TR bm (nn + 1) D' ∧ MapOK LB (4 * (nn + 1)) n (S10.visX n xs (c * 16777216 + m) nib) w' D') ∧ w.grownBy w' (some bm) := by
  obtain ⟨h, hh⟩ : ∃ h, h = c * 16777216 + m := ⟨_, rfl⟩
  rw [← hh]
  have hh2 : h < 4294967296 := by omega
  have hY := hg.openX h hh2
  have hi := hg.openN_lt h
  have hfr := hg.openX_out h
  have hck := hg.openX_mark h
  have hmk : S10.mark h = c := by unfold S10.mark; omega
  have HO := Lib.hid fun W hW => open10_o (n : Int) xs h hh2 a cap W hW
  have HF := Lib.hid fun W hW => Find10_any (n : Int) xs h hh2 a cap W hW
  rw [hg.openB, hg.check] at HO
  have eor : bits .or .u32 ((c : Int) * 16777216) (m : Int) = (h : Int) := bits_or_check hc hm hh
  have hYl := hY.len
  rw [hmk] at hck
  have hX : S10.visX n xs h nib = S10.visGo (S10.openN (n : Int) xs h) nib 4 (S10.openX (n : Int) xs h) 1 := rfl
  have hfind := hg.openX_eq h
  have hopenf := fun k (hf : S10.find n xs h = some k) => hg.openN_found h hf
  have hB' : S10.findB (n : Int) xs h = (S10.find n xs h).isSome := by unfold S10.findB; rw [if_pos hg.check, Int.toNat_natCast]
  rw [hB'] at HF
  rw [hX]
  obtain ⟨fnd, hfnd⟩ : ∃ x, S10.find n xs h = x := ⟨_, rfl⟩
  rw [hfnd] at HF hfind
  obtain ⟨fN, hfN⟩ : ∃ x, S10.findN (n : Int) xs h = x := ⟨_, rfl⟩
  rw [hfN] at HF
  simp only [hfnd] at hopenf
  obtain ⟨i, hieq⟩ : ∃ i, S10.openN (n : Int) xs h = i := ⟨_, rfl⟩
  obtain ⟨Y, hYeq⟩ : ∃ Y, S10.openX (n : Int) xs h = Y := ⟨_, rfl⟩
  rw [hieq, hYeq] at hfr hck HO ⊢
  rw [hYeq] at hfind hY hYl
  rw [hieq] at hi hfind
  simp only [hieq] at hopenf
  obtain ⟨F, hFeq⟩ : ∃ F, S10.visGo i nib 4 Y 1 = F := ⟨_, rfl⟩
  rw [hFeq]
  have Hfd := Lib.hid hfind
  have Hop := Lib.hid hopenf
  have HFe := Lib.hid hFeq
  have Hgy := Lib.hid hY
  have Hyl := Lib.hid hYl
  have Hfr2 := Lib.hid hfr
  have Hck2 := Lib.hid hck
  have Hi2 := Lib.hid hi
  have Hmk := Lib.hid hmk
  have Hg := Lib.hid hg
  clear hfind hopenf hB' hFeq hX hieq hYeq hY hYl hfr hck hi hmk hg hh hfnd hfN
  unfold tabV at *
  go_enter Try.func14, Try.ntmps14
  obtain ⟨w0, hw0⟩ : ∃ w0, ((w.alloc (Obj.cells #[.int .i64 (n : Int), .slice a xs.length cap] 26)).alloc (Obj.cells #[.int .u8 (c : Int), .int .u8 (m : Int), .int .u8 (nib : Int)] 34)).alloc (Obj.cells #[.int .i64 0, .slice none 0 0] 26) = w0 := ⟨_, rfl⟩
  have hB0 : Below w.heap.size w w0 := by rw [← hw0]; go_grown
  have a0 : Blk w0 w.heap.size [.int .i64 (n : Int), .slice a xs.length cap] 26 := by rw [← hw0]; exact ((Blk.new w _ _).alloc _).alloc _
  have b0 : Blk w0 (w.heap.size + 1) [.int .u8 (c : Int), .int .u8 (m : Int), .int .u8 (nib : Int)] 34 := by
    have h := (Blk.new (w.alloc (Obj.cells #[.int .i64 (n : Int), .slice a xs.length cap] 26)) [.int .u8 (c : Int), .int .u8 (m : Int), .int .u8 (nib : Int)] 34).alloc (Obj.cells #[.int .i64 0, .slice none 0 0] 26)
    rw [← hw0]; simpa using h
  have c0 : Blk w0 (w.heap.size + 1 + 1) [.int .i64 0, .slice none 0 0] 26 := by
    have h := Blk.new ((w.alloc (Obj.cells #[.int .i64 (n : Int), .slice a xs.length cap] 26)).alloc (Obj.cells #[.int .u8 (c : Int), .int .u8 (m : Int), .int .u8 (nib : Int)] 34)) [.int .i64 0, .slice none 0 0] 26
    rw [← hw0]; simpa using h
  have M0 := hM.kept (Below.grownBy hB0 none) (by simp)
  have O0 := hOK.keptBy (Below.grownBy hB0 none) (fun r e => by cases e)
  have e0 := a0.cell 0
  have e1 := a0.cell 1
  have e2 := b0.cell 0
  have e3 := b0.cell 1
  simp only [List.getElem?_cons_zero, List.getElem?_cons_succ] at e0 e1 e2 e3
  have l0 := c0.lt
  go_wp2_with fail
  refine (HF.out _ (hT.step hB0)).mono ?_
  rintro e w1 ⟨rfl, hb1⟩
  have hB1 := below_trans hB0 hb1
  have A1 := a0.step hb1
  have B1 := b0.step hb1
  have C1 := c0.step hb1
  have M1 := M0.kept (Below.grownBy hb1 none) (by simp)
  have O1 := O0.keptBy (Below.grownBy hb1 none) (fun r e => by cases e)
  have q0 := A1.cell 0
  have q1 := A1.cell 1
  simp only [List.getElem?_cons_zero, List.getElem?_cons_succ] at q0 q1
  go_wp2_with fail
  refine (HO.out _ (hT.step hB1)).mono ?_
  rintro e w2 ⟨ay, cy, rfl, hT2, hF2, hb2⟩
  have hB2 := below_trans hB1 hb2
  have A2 := A1.step hb2
  have B2 := B1.step hb2
  have C2 := C1.step hb2
  have M2 := M1.kept (Below.grownBy hb2 none) (by simp)
  have O2 := O1.keptBy (Below.grownBy hb2 none) (fun r e => by cases e)
  have r0 := A2.cell 0
  have r1 := A2.cell 1
  have f0 := A2.free 0
  have f1 := A2.free 1
  have A3 := (A2.set 0 (.int .i64 (n : Int))).set 1 (.slice ay Y.length cy)
  have B3 := (B2.other w.heap.size 0 (.int .i64 (n : Int)) (by omega)).other w.heap.size 1 (.slice ay Y.length cy) (by omega)
  have C3 := (C2.other w.heap.size 0 (.int .i64 (n : Int)) (by omega)).other w.heap.size 1 (.slice ay Y.length cy) (by omega)
  replace hF2 := hF2.mono (show w.heap.size + 1 + 1 + 1 ≤ _ by have := c0.lt; have := hb1.size; omega)
  have T3 := (hT2.other hF2 w.heap.size 0 (.int .i64 (n : Int)) (by omega)).other hF2 w.heap.size 1 (.slice ay Y.length cy) (by omega)
  have hB3 := (hB2.setCell (p := ⟨w.heap.size, 0, none⟩) (by simp) (.int .i64 (n : Int))).setCell (p := ⟨w.heap.size, 1, none⟩) (by simp) (.slice ay Y.length cy)
  simp only [List.set_cons_zero, List.set_cons_succ, List.getElem?_cons_zero, List.getElem?_cons_succ] at r0 r1 A3
  obtain ⟨w3, hw3⟩ : ∃ w3, (w2.setCell ⟨w.heap.size, 0, none⟩ (.int .i64 (n : Int))).setCell ⟨w.heap.size, 1, none⟩ (.slice ay Y.length cy) = w3 := ⟨_, rfl⟩
  rw [hw3] at A3 B3 C3 T3 hB3
  have M3 := hM.kept (Below.grownBy hB3 none) (by simp)
  have O3 := hOK.keptBy (Below.grownBy hB3 none) (fun r e => by cases e)
  have hbm : bm < w.heap.size := hM.lt
  obtain ⟨v0, ps0, hrun3, hR3⟩ := M3.lookup lawInt10 Try.underlying30 (zeroTS_run w3) (TR_mk 0 _) (Maps.keyOf_int_mk Try.underlying3 (WalkArith.wf_i64 (n := (i : Int)) (by have := Hi2.out; have := pow_small Hg.out.le; omega)))
  obtain ⟨ck, ss, hat, hts⟩ := hOK i Hi2.out
  obtain ⟨⟨ck', ss', rfl⟩, hR4⟩ := TR_inv hR3
  have hcs : ck' = ck ∧ ss' = ss := by
    have h1 := congrArg Prod.fst hR4
    simp only at h1
    have h2 := h1.symm.trans hat
    exact mkTS_inj (by injection h2)
  obtain ⟨rfl, rfl⟩ := hcs
  have Hts := Lib.hid hts
  have hl3 := A3.lt
  have hl4 := B3.lt
  have hl5 := C3.lt
  have qq2 := B3.cell 0
  have qq3 := B3.cell 2
  simp only [List.getElem?_cons_zero, List.getElem?_cons_succ] at qq2 qq3
  clear A1 B1 C1 A2 B2 C2 M0 M1 M2 O0 O1 O2 hat hR3 hR4 e0 e1 e2 e3 q0 q1 hb2 hb1
  have hApart : ∀ b o, ay = some ⟨b, o, none⟩ → w.heap.size + 3 ≤ b ∧ ¬ b = w3.heap.size := fun b o e => by
    have h1 := hF2 b o e
    obtain ⟨b', o', e', hcs⟩ := T3.rd (fun e' => by have h2 := congrArg List.length e'; rw [Bts_length, Hyl.out] at h2; have := Nat.two_pow_pos n; simp at h2; omega)
    rw [e] at e'; cases e'
    have h3 : b < w3.heap.size := block_lt_of_cell (hcs 0 _ (List.getElem?_eq_getElem (by rw [Bts_length, Hyl.out]; have := Nat.two_pow_pos n; omega)))
    omega
  obtain ⟨wq, hwq⟩ : ∃ wq, w3.alloc (.cells zTSa 90) = wq := ⟨_, rfl⟩
  have hqb : Below w3.heap.size w3 wq := by rw [← hwq]; exact (Below.refl _ w3).alloc (Nat.le_refl _) _
  have Eq0 : Blk wq w3.heap.size (.int .u8 0 :: List.replicate 16 (.slice none 0 0)) 90 := by rw [← hwq]; exact Blk.new w3 _ _
  have zq : wq.heap.size = w3.heap.size + 1 := by rw [← hwq]; simp
  have hck1 : some 17 = some (Value.int .u8 ck' :: ss').length := by rw [List.length_cons, hts.len]
  have hone1 := ss_one (hts.ss 0) ck'
  have hl17 : (Value.int .u8 0 :: List.replicate 16 (Value.slice none 0 0)).length = (Value.int .u8 ck' :: ss').length := by rw [List.length_cons, List.length_cons, hts.len]; rfl
  have hqa := B3.step hqb
  have HO1 := Lib.hid hone1
  have HE0 := Lib.hid Eq0
  clear hone1 Eq0
  cases fnd with
  | some kf =>
    have hYx : Y = xs := by have := Hfd.out; simpa using this
    have hcc : ck' = (c : Int) := by have := hts.chk; rw [← hYx, Hck2.out] at this; exact this
    subst hcc
    have hSS : SSok LB w.heap.size (w.heap.size + 3) (4 * nn + (4 - 4)) w3 Y i ss' := by rw [hYx]; exact (hts.ss _).step hB3
    have HYx := Lib.hid hYx
    have HSS := Lib.hid hSS
    clear hYx hts hSS
    have qx0 := hqa.cell 0
    simp only [List.getElem?_cons_zero] at qx0
    go_wp2_with (first
      | (refine wpList_alloc 90 zTSa alloc_ts (by rfl) (by rfl) ?_; rw [hwq])
      | (refine wpList_storeB 90 (.tmp 13) (.tmp 51) (by rfl) (by rfl) w3.heap.size (by rfl) (.int .u8 (c : Int) :: ss') (by rfl) _ 90 HE0.out (info_ts.trans hck1) hl17 HO1.out ?_
         intro wL E4 gL sL
         have hLb : Below w3.heap.size w3 wL := hqb.trans (rowBelow gL (Nat.le_refl _) (by omega))
         have qx1 := (B3.step hLb).cell 0
         have qx2 := E4.cell 0
         simp only [List.getElem?_cons_zero] at qx1 qx2
         have HE4 := Lib.hid E4
         have HLb := Lib.hid hLb
         clear E4 hLb gL))
    have E4 := HE4.out
    have hLb := HLb.out
    have hSS := HSS.out
    obtain ⟨ss, hss⟩ : ∃ ss, ss' = ss := ⟨_, rfl⟩
    rw [hss] at E4 hSS
    have hwL := trivial
    have hR0 : VisR LB n i nib c m nn w.heap.size w3.heap.size F xs w 4 1 Y ay cy ss wL :=
      ⟨Hgy.out, by omega, by decide, HFe.out, Hfr2.out, Hck2.out, T3.step hLb, hApart, A3.step hLb, B3.step hLb, C3.step hLb, E4, hSS.step hLb, hB3.trans (hLb.mono hB3.size), by omega⟩
    clear hSS E4 hLb hss hApart A3 B3 C3 T3 hw3 w0 hB0 a0 b0 c0 l0 hw0 HE4 HLb HSS
    go_wp2_with fail
    go_loopw [14, 15] (fun node k wr => ∃ (r nd : Nat) (zs : List Int) (az : Option Addr) (cz : Nat) (ss : List Value), r ≤ 4 ∧ node = .int .i64 (nd : Int) ∧ k = .int .i64 ((r : Int) - 1) ∧ VisR LB n i nib c m nn w.heap.size w3.heap.size F xs w r nd zs az cz ss wr)
      (fun _ k _ => (intOf k + 1).toNat)
    case atStart => exact ⟨4, 1, Y, ay, cy, ss, by omega, rfl, rfl, hR0⟩
    case round =>
      clear hR0
      obtain ⟨r, nd, zs, az, cz, ss, hr, rfl, rfl, R⟩ := hrel
      cases r with
      | zero =>
        have hzF : zs = F := R.go
        have hR := R
        rw [hzF] at R
        have hbelR := R.bel
        have HM := Lib.hid (hM.kept (Below.grownBy hbelR none) (by simp))
        have hD : IsMap D := by obtain ⟨es, ck, _, _, _, e⟩ := hM; exact ⟨_, by first | exact e | exact e.symm⟩
        have hcel : ∃ o : Obj, wr.heap[bm]? = some o ∧ o.isCells = false := by obtain ⟨es, ck, e, _⟩ := HM.out; exact ⟨_, e, rfl⟩
        have hcel0 : ∃ o : Obj, w.heap[bm]? = some o ∧ o.isCells = false := by obtain ⟨es, ck, e, _⟩ := hM; exact ⟨_, e, rfl⟩
        have htsR := R.ss.ts R.chk
        have ca0 := R.A.cell 0
        have ca1 := R.A.cell 1
        simp only [List.getElem?_cons_zero, List.getElem?_cons_succ] at ca0 ca1
        have hkey : keyOf Try.prog 3 (.int .i64 (i : Int)) = some (.int .i64 (i : Int)) := Maps.keyOf_int_mk Try.underlying3 (WalkArith.wf_i64 (n := (i : Int)) (by have := Hi2.out; have := pow_small Hg.out.le; omega))
        have HRR := Lib.hid R
        have Hts9 := Lib.hid htsR
        have hneS : ¬ bm = w.heap.size := by omega
        clear R hR htsR hzF
        have hssl : some 17 = some (Value.int .u8 (c : Int) :: ss).length := by rw [List.length_cons, HRR.out.ss.len]
        go_wp2_with (first
          | (refine wpList_loadB 90 (.tmp 13) (by rfl) (by rfl) w3.heap.size (by rfl) (.int .u8 (c : Int) :: ss) 90 HRR.out.E _ Try.underlying90 rfl (info_ts.trans hssl) ?_)
          | (at_mapUpdate
             refine wpList_mapUpdate_own _ rfl _ _ _ 30 rfl 3 90 lawInt10 Try.underlying30 TR bm nn D rfl HM.out (by unfold maxLen; omega) (.int .i64 (i : Int)) (mkTS (c : Int) ss) (.int .i64 (i : Int)) rfl rfl hkey (.held (mkTS (c : Int) ss)) [] (TR_mk _ _) ?_
             intro wu hownu hgrowu
             have Au := HRR.out.A.keptBy hgrowu (by simp; omega)
             have Cu := HRR.out.C.keptBy hgrowu (by simp; omega)
             have a0 := Au.cell 0
             have a1 := Au.cell 1
             have c0 := Cu.cell 0
             have c1 := Cu.cell 1
             have f0 := Cu.free 0
             have f1 := Cu.free 1
             have Cv := (Cu.set 0 (.int .i64 (n : Int))).set 1 (.slice az F.length cz)
             have d0 := Cv.cell 0
             have d1 := Cv.cell 1
             simp only [List.set_cons_zero, List.set_cons_succ, List.getElem?_cons_zero, List.getElem?_cons_succ] at a0 a1 c0 c1 d0 d1
             have hgw : w.grownBy wu (some bm) := below_then hbelR hgrowu
             have hgv : w.grownBy ((wu.setCell ⟨w.heap.size + 1 + 1, 0, none⟩ (.int .i64 (n : Int))).setCell ⟨w.heap.size + 1 + 1, 1, none⟩ (.slice az F.length cz)) (some bm) :=
               grown_then hgw (((Below.refl w.heap.size wu).setCell (p := ⟨w.heap.size + 1 + 1, 0, none⟩) (by simp; omega) _).setCell (p := ⟨w.heap.size + 1 + 1, 1, none⟩) (by simp; omega) _)
             have hownv := hownu.kept (grown_set2 wu (w.heap.size + 1 + 1) 0 1 (.int .i64 (n : Int)) (.slice az F.length cz)) (by simp; omega)
             have hSv := ((HRR.out.ss.keptBy hgrowu (fun r e => by cases e; exact hcel)).set (c := w.heap.size + 1 + 1) (by omega) 0 (.int .i64 (n : Int))).set (c := w.heap.size + 1 + 1) (by omega) 1 (.slice az F.length cz)
             have hOKv := (hOK.keptBy hgv (fun r e => by cases e; exact hcel0)).put (show 4 * nn ≤ 4 * (nn + 1) by omega) hD i ((hSv.ts HRR.out.chk).up (show 4 * nn + (4 - 0) ≤ 4 * (nn + 1) by omega)) HRR.out.out
             have hTv : Tab F az cz ((wu.setCell ⟨w.heap.size + 1 + 1, 0, none⟩ (.int .i64 (n : Int))).setCell ⟨w.heap.size + 1 + 1, 1, none⟩ (.slice az F.length cz)) := by
               have h1 := HRR.out.tab.keptBy hgrowu (fun r e => by cases e; exact hcel)
               have hf : Fr az (w.heap.size + 3) := fun b o e => (HRR.out.fr b o e).1
               exact (h1.other hf _ 0 _ (by omega)).other hf _ 1 _ (by omega)
             have HPost := Lib.hid (show ∃ a' cap', Tab F a' cap' _ ∧ Fr a' w.heap.size ∧ (∃ D', World.ownsMap _ Try.prog 3 TR bm (nn + 1) D' ∧ MapOK LB (4 * (nn + 1)) n F _ D') ∧ w.grownBy _ (some bm) ∧ a' = az ∧ cap' = cz from
               ⟨az, cz, hTv, fun b o e => by have := (HRR.out.fr b o e).1; omega, ⟨_, hownv, hOKv⟩, hgv, rfl, rfl⟩)
             clear Au Cu Cv hgw hgv hownv hSv hOKv hTv hownu)
          | (exact bodyPost_ret (v := .tuple #[.agg #[.int .i64 (n : Int), .slice az F.length cz], .bool true]) (by simp [results, Try.results14, go_sem, d0, d1]) rfl (by
              obtain ⟨a', cap', h1, h2, h3, h4, rfl, rfl⟩ := HPost.out
              refine ⟨_, _, rfl, ?_, ?_, ?_, ?_⟩; apply h1; apply h2; obtain ⟨D9, q1, q2⟩ := h3; refine ⟨D9, ?_, ?_⟩; with_reducible exact q1; apply q2; with_reducible exact h4)))
      | succ r =>
        have hk : (((r + 1 : Nat) : Int) - 1) = (r : Int) := by omega
        rw [hk]
        have hi2 := Hi2.out
        have hzl := R.good.len
        have hnd1 := R.nd1
        have hnd15 : nd ≤ 15 := by
          have h1 := R.nd2
          have h2 := Nat.two_pow_pos r
          have h3 : (nd + 1) * 2 ≤ (nd + 1) * 2 ^ (r + 1) := Nat.mul_le_mul_left _ (by rw [Nat.pow_succ]; omega)
          omega
        have hnd16 : nd < 16 := by omega
        have hin : 16 * i + nd < zs.length := by omega
        obtain ⟨bt, hbt⟩ : ∃ bt, nib / 2 ^ r % 2 = bt := ⟨_, rfl⟩
        have hbt2 : bt < 2 := by omega
        have hand : bits .and .i64 ((nib : Int) / 2 ^ r) 1 = (bt : Int) := by
          have e : (nib : Int) / 2 ^ r = ((nib / 2 ^ r : Nat) : Int) := by rw [Int.natCast_ediv, Int.natCast_pow]; rfl
          rw [e, show (1 : Int) = ((1 : Nat) : Int) from rfl, bits_and_nat _ _ (Nat.lt_of_le_of_lt (Nat.div_le_self _ _) (by omega)) (by omega), Nat.and_one_is_mod, hbt]
        have hgo := R.go
        simp only [S10.visGo, hbt] at hgo
        have hst := R.good.st (16 * i + nd) hin (by omega)
        have hst0 := (R.good.getD (16 * i + nd)).1
        have HG := Lib.hid fun W hW => get10_any (n : Int) zs (i : Int) (nd : Int) az cz W hW
        rw [R.good.getN hi2 hnd1 hnd15, R.good.node hi2 hnd1 hnd15] at HG
        obtain ⟨v, hv, bs, ab, cb, rfl, hrdb, hb2, hbl, hsta, hap⟩ := R.ss.seen nd hnd1 hnd15
        obtain ⟨stt, hstt⟩ : ∃ st, zs.getD (16 * i + nd) 0 = st := ⟨_, rfl⟩
        rw [hstt] at hgo hst hst0 HG hsta
        have hbl2 : bs.length ≤ 5000 := by omega
        have HTs := Lib.hid fun W hW => tryState10_any bs hb2 ab cb (by omega) W hW
        rw [hsta] at HTs
        have hnx := S09.next_range (s := stt) ⟨hst0, hst⟩ (b := bt) (by omega)
        have HNx := Lib.hid fun W => (show Calls Try.prog 41 #[.int .i64 stt, .int .i64 (bt : Int)] W fun e w' => e = .returned (.tuple #[.int .i64 (S09.next stt bt), .int .i64 0]) ∧ Below W.heap.size W w' by
          have hx := S09.nextS_ok (s := stt) ⟨hst0, hst⟩ (b := bt) (by omega)
          have h := next09_any stt (bt : Int) W
          rw [hx.1, hx.2] at h
          exact h)
        obtain ⟨nx, hnxe⟩ : ∃ nx, S09.next stt bt = nx := ⟨_, rfl⟩
        rw [hnxe] at hgo hnx HNx
        have HSt := Lib.hid fun W hW => set10_at (n : Int) zs (i : Int) (nd : Int) nx (n : Int) (zs.set (16 * i + nd) nx) (R.good.setB hi2 hnd1 hnd15 hnx) (R.good.setX hi2 hnd1 hnd15 hnx) (R.good.setE hi2 hnd1 hnd15 hnx) az cz W hW
        have hgood2 := R.good.set (16 * i + nd) nx ⟨hnx.1, by omega⟩ (fun _ => hnx.2)
        obtain ⟨ys, hys⟩ : ∃ ys, zs.set (16 * i + nd) nx = ys := ⟨_, rfl⟩
        have hout2 : ∀ q, q < 16 * i ∨ 16 * i + 16 ≤ q → ys.getD q 0 = xs.getD q 0 := fun q hq => by
          rw [← hys, List.getD, List.getElem?_set_ne (by omega)]; exact R.out q hq
        have hchk2 : ys.getD (16 * i) 0 = (c : Int) := by
          rw [← hys, List.getD, List.getElem?_set_ne (by omega)]; exact R.chk
        have hyl : ys.length = 16 * 2 ^ n := by rw [← hys, List.length_set]; exact hzl
        rw [hys] at hgo HSt hgood2
        have hB := R.bel
        have x2 := R.B.cell 2
        have a0 := R.A.cell 0
        have a1 := R.A.cell 1
        simp only [List.getElem?_cons_zero, List.getElem?_cons_succ] at x2 a0 a1
        have hQ := R.q
        have lq := R.E.lt
        unfold tabV at *
        have HR := Lib.hid R
        have Hgo := Lib.hid hgo
        have Hg2 := Lib.hid hgood2
        have Ho2 := Lib.hid hout2
        have Hc2 := Lib.hid hchk2
        have Hyl2 := Lib.hid hyl
        have Hys := Lib.hid hys
        have Hin := Lib.hid hin
        have Hap := Lib.hid hap
        have Hv := Lib.hid hv
        have Hb2 := Lib.hid hb2
        have Hsta := Lib.hid hsta
        have Hnx := Lib.hid hnxe
        clear R hgo hgood2 hout2 hchk2 hyl hys hap hv hb2 hsta hnxe hin hzl hbt hstt
        go_wp2_with fail
        refine (HG.out _ HR.out.tab).mono ?_
        rintro e w4 ⟨rfl, hb4⟩
        have hrd4 := hrdb.step hb4
        have x4 : w4.cell? ⟨w3.heap.size, 1 + nd, none⟩ = some (.slice ab bs.length cb) := by
          rw [(HR.out.E.step hb4).cell, Nat.add_comm, List.getElem?_cons_succ]; exact Hv.out
        have b0 := (HR.out.A.step hb4).cell 0
        go_wp2_with fail
        refine (HTs.out _ hrd4).mono ?_
        rintro e w5 ⟨rfl, hb5⟩
        have hb5' := below_trans hb4 hb5
        clear x4 hrd4 b0
        have ebne : (stt != stt) = false := by simp
        go_wp2_with fail
        refine (HNx.out _).mono ?_
        rintro e w6 ⟨rfl, hb6⟩
        have hb6' := below_trans hb5' hb6
        have A6 := HR.out.A.step hb6'
        have a60 := A6.cell 0
        have a61 := A6.cell 1
        simp only [List.getElem?_cons_zero, List.getElem?_cons_succ] at a60 a61
        go_wp2_with fail
        refine (HSt.out _ (HR.out.tab.step hb6')).mono ?_
        rintro e w7 ⟨ar, cr, rfl, hT7, hF7, hb7⟩
        have hb7' := below_trans hb6' hb7
        have A7 := HR.out.A.step hb7'
        have E7 := HR.out.E.step hb7'
        have hrd7 := hrdb.step hb7'
        have z7 := hb7'.size
        have lq7 := E7.lt
        clear A6 a60 a61
        obtain ⟨w8, hw8⟩ : ∃ w8, w7.alloc (Obj.cells #[.int .i64 (n : Int), .slice ar ys.length cr] 26) = w8 := ⟨_, rfl⟩
        have hb8 : Below w7.heap.size w7 w8 := by rw [← hw8]; exact (Below.refl _ _).alloc (Nat.le_refl _) _
        obtain ⟨w9, hw9⟩ : ∃ w9, w8.alloc (Obj.cells #[] 3) = w9 := ⟨_, rfl⟩
        have hb9 : Below w8.heap.size w8 w9 := by rw [← hw9]; exact (Below.refl _ _).alloc (Nat.le_refl _) _
        have hb9' := below_trans (below_trans hb7' hb8) hb9
        have G8 : Blk w8 w7.heap.size [.int .i64 (n : Int), .slice ar ys.length cr] 26 := by rw [← hw8]; exact Blk.new w7 _ _
        have hs8 : w8.heap.size = w7.heap.size + 1 := by rw [← hw8]; simp
        have E9 := HR.out.E.step hb9'
        have x9 : w9.cell? ⟨w3.heap.size, 1 + nd, none⟩ = some (.slice ab bs.length cb) := by
          rw [E9.cell, Nat.add_comm, List.getElem?_cons_succ]; exact Hv.out
        have hrd9 := hrdb.step hb9'
        have hown9 : w9.ownsRow w8.heap.size 3 1 (.slice (some ⟨w8.heap.size, 0, none⟩) 0 0) 0 [] := by rw [← hw9]; exact World.ownsRow_made w8 #[] 0 (Nat.le_refl _) (by decide) rfl
        rw [hs8] at hown9
        have Hown9 := Lib.hid hown9
        have Hrd9 := Lib.hid hrd9
        have hsz9 : w7.heap.size + 1 ≤ w9.heap.size := by have := hb9.size; omega
        clear hown9 hrd9
        have hb79 := below_trans hb8 hb9
        have R7 := HR.out.ss.step hb7'
        have lq7' := lq7
        go_wp2_with first
          | (at_builtin; refine wpList_append_rd (.tmp 125) (.tmp 129) 75 3 1 8 _ (w7.heap.size + 1) elems_int1 rfl rfl _ 0 [] rfl Hown9.out ab bs.length cb (Nts bs) rfl (by simp [Nts]) Hrd9.out (Nts_one _) (by unfold maxLen; omega) (by omega) hsz9 ?_; intro a2 cap2 w10 hown10 hgrow10; have Hown10 := Lib.hid (show w10.ownsRow (w7.heap.size + 1) 3 1 (.slice a2 bs.length cap2) bs.length (Nts bs) from (by simpa using hown10)); (try rw [Nat.zero_add]); have Hgrow10 := Lib.hid hgrow10; clear hown10 hgrow10)
          | (at_builtin
             refine wpList_append_rd (.tmp 130) (.tmp 132) 75 3 1 8 _ (w7.heap.size + 1) elems_int1 rfl rfl _ bs.length (Nts bs) rfl (Hown10.out.alloc _) (some ⟨w10.heap.size, 0, none⟩) 1 1 (Nts [bt]) rfl (by simp [Nts]) (Rd.new w10 [.int .i64 (bt : Int)] 3) (Nts_one _) (by unfold maxLen; omega) (by omega) (by have := Hgrow10.out.size; simp; omega) ?_
             intro a3 cap3 w12 hown12 hgrow12
             have hb10 : Below w7.heap.size w7 w10 := Below.grown hb79 Hgrow10.out (by have := hb79.size; omega) (fun k e => by have h : w7.heap.size + 1 = k := (by cases e; rfl); omega)
             have hb12 : Below w7.heap.size w7 w12 := Below.grown (hb10.alloc hb10.size _) hgrow12 (by have := hb10.size; simp; omega) (fun k e => by have := (owns_block Hown10.out e).1; omega)
             have hb12' := below_trans hb7' hb12
             have hrd12 := Rd.of_owns hown12
             have hgb : ∀ b o, a3 = some ⟨b, o, none⟩ → w7.heap.size + 1 ≤ b := fun b o e => (owns_block hown12 (by rw [e]; rfl)).1
             have A12 := HR.out.A.step hb12'
             have B12 := HR.out.B.step hb12'
             have C12 := HR.out.C.step hb12'
             have E12 := HR.out.E.step hb12'
             have G12 := (G8.step hb9).below (Below.grown (Below.grown (Below.refl w8.heap.size w9) Hgrow10.out (by have := hb9.size; omega) (fun k e => by have h : w7.heap.size + 1 = k := (by cases e; rfl); omega) |>.alloc (by have := Hgrow10.out.size; have := hb9.size; omega) (Obj.cells #[.int .i64 (bt : Int)] 3)) hgrow12 (by have := Hgrow10.out.size; have := hb9.size; simp; omega) (fun k e => by have := (owns_block Hown10.out e).1; omega)) (by omega)
             have T12 := hT7.step hb12
             have S12 := HR.out.ss.step hb12'
             have hS12 : SeenO LB w.heap.size (w.heap.size + 3) (4 * nn + (4 - (r + 1)) + 1) w12 (.slice a3 (bs.length + 1) cap3) nx := by
               refine ⟨bs ++ [bt], a3, cap3, by rw [List.length_append, List.length_singleton], ?_, ?_, by rw [List.length_append, List.length_singleton]; omega, by rw [S10.sta_snoc, Hsta.out, Hnx.out], fun _ b o e => ⟨by have := hgb b o e; omega, .inr (by have := hgb b o e; omega)⟩⟩
               · rw [show Nts (bs ++ [bt]) = Nts bs ++ Nts [bt] by simp [Nts]]; exact hrd12
               · intro x hx
                 rcases List.mem_append.1 hx with hx | hx
                 · exact Hb2.out x hx
                 · rw [List.mem_singleton.1 hx]; exact hbt2
             have xe : w12.cell? ⟨w3.heap.size, 1 + nd, none⟩ = some (.slice ab bs.length cb) := by rw [E12.cell, Nat.add_comm, List.getElem?_cons_succ]; exact Hv.out
             have fe := E12.free (1 + nd)
             have hni := S12.noint (c : Int)
             have E13 := E12.set (1 + nd) (.slice a3 (bs.length + 1) cap3)
             have A13 := A12.other w3.heap.size (1 + nd) (.slice a3 (bs.length + 1) cap3) (by omega)
             have B13 := B12.other w3.heap.size (1 + nd) (.slice a3 (bs.length + 1) cap3) (by omega)
             have C13 := C12.other w3.heap.size (1 + nd) (.slice a3 (bs.length + 1) cap3) (by omega)
             have G13 := G12.other w3.heap.size (1 + nd) (.slice a3 (bs.length + 1) cap3) (by omega)
             have T13 := T12.other hF7 w3.heap.size (1 + nd) (.slice a3 (bs.length + 1) cap3) (by have := hb6'.size; omega)
             have S13 := S12.setB E12 hni (1 + nd) (.slice a3 (bs.length + 1) cap3)
             have hS13 := hS12.setB E12 hni (1 + nd) (.slice a3 (bs.length + 1) cap3)
             have hB13 := (HR.out.bel.trans (hb12'.mono HR.out.bel.size)).setCell (p := ⟨w3.heap.size, 1 + nd, none⟩) (by simp; omega) (.slice a3 (bs.length + 1) cap3)
             rw [Nat.add_comm 1 nd, List.set_cons_succ, Nat.add_comm nd 1] at E13
             obtain ⟨w13, hw13⟩ : ∃ w13, w12.setCell ⟨w3.heap.size, 1 + nd, none⟩ (.slice a3 (bs.length + 1) cap3) = w13 := ⟨_, rfl⟩
             rw [hw13] at E13 A13 B13 C13 G13 T13 S13 hS13 hB13
             obtain ⟨ss2, hss2⟩ : ∃ ss2, ss.set nd (.slice a3 (bs.length + 1) cap3) = ss2 := ⟨_, rfl⟩
             have S13b := S13.put hnd1 hnd15 hS13 Hin.out
             rw [Hys.out, hss2] at S13b
             rw [hss2] at E13
             have u0 := A13.cell 0
             have u1 := A13.cell 1
             have v0 := A13.free 0
             have v1 := A13.free 1
             have t0 := G13.cell 0
             have t1 := G13.cell 1
             have A14 := (A13.set 0 (.int .i64 (n : Int))).set 1 (.slice ar ys.length cr)
             have B14 := (B13.other w.heap.size 0 (.int .i64 (n : Int)) (by omega)).other w.heap.size 1 (.slice ar ys.length cr) (by omega)
             have C14 := (C13.other w.heap.size 0 (.int .i64 (n : Int)) (by omega)).other w.heap.size 1 (.slice ar ys.length cr) (by omega)
             have E14 := (E13.other w.heap.size 0 (.int .i64 (n : Int)) (by omega)).other w.heap.size 1 (.slice ar ys.length cr) (by omega)
             have T14 := (T13.other hF7 w.heap.size 0 (.int .i64 (n : Int)) (by have := hb6'.size; have := HR.out.E.lt; omega)).other hF7 w.heap.size 1 (.slice ar ys.length cr) (by have := hb6'.size; have := HR.out.E.lt; omega)
             have S14 := (S13b.set (c := w.heap.size) (by omega) 0 (.int .i64 (n : Int))).set (c := w.heap.size) (by omega) 1 (.slice ar ys.length cr)
             have hB14 := (hB13.setCell (p := ⟨w.heap.size, 0, none⟩) (by simp) (.int .i64 (n : Int))).setCell (p := ⟨w.heap.size, 1, none⟩) (by simp) (.slice ar ys.length cr)
             simp only [List.set_cons_zero, List.set_cons_succ, List.getElem?_cons_zero, List.getElem?_cons_succ] at u0 u1 t0 t1 A14
             obtain ⟨w14, hw14⟩ : ∃ w14, (w13.setCell ⟨w.heap.size, 0, none⟩ (.int .i64 (n : Int))).setCell ⟨w.heap.size, 1, none⟩ (.slice ar ys.length cr) = w14 := ⟨_, rfl⟩
             rw [hw14] at A14 B14 C14 E14 T14 S14 hB14
             have hfr14 : ∀ b o, ar = some ⟨b, o, none⟩ → w.heap.size + 3 ≤ b ∧ ¬ b = w3.heap.size := fun b o e => by have := hF7 b o e; have := hb6'.size; have := HR.out.E.lt; omega
             have hk4 : 4 * nn + (4 - (r + 1)) + 1 = 4 * nn + (4 - r) := by omega
             rw [hk4] at S14
             have HR2 : RowKit.Hid (VisR LB n i nib c m nn w.heap.size w3.heap.size F xs w r (2 * nd + bt) ys ar cr ss2 w14) := Lib.hid ⟨Hg2.out, by omega, by
               have h2 := HR.out.nd2
               rw [Nat.pow_succ] at h2
               have h3 : (2 * nd + bt + 1) * 2 ^ r ≤ (2 * nd + 2) * 2 ^ r := Nat.mul_le_mul_right _ (by omega)
               have h4 : (2 * nd + 2) * 2 ^ r = (nd + 1) * (2 ^ r * 2) := by rw [Nat.mul_comm (2 ^ r) 2, ← Nat.mul_assoc]; congr 1; omega
               omega, Hgo.out, Ho2.out, Hc2.out, T14, hfr14, A14, B14, C14, E14, S14, hB14, hQ⟩
             have hnd40 : nd ≤ 15 := hnd15
             clear hown12 hgrow12 hb10 hb12 hb12' hrd12 hgb A12 B12 C12 E12 G12 T12 S12 hS12 hni E13 A13 B13 C13 G13 T13 S13 hS13 hB13 S13b A14 B14 C14 E14 T14 S14 hB14 hss2 hk4)
        go_roundw
        case rel => exact ⟨r, 2 * nd + bt, ys, ar, cr, ss2, by omega, by go_num, by go_num, HR2.out⟩
        case measure => simp [intOf] <;> omega
  | none =>
    have hYf : Y = S10.fresh xs i (S10.mark h) := by have := Hfd.out; simpa using this
    have hSS : SSok LB w.heap.size (w.heap.size + 3) (4 * nn + (4 - 4)) w3 Y i (List.replicate 16 (.slice none 0 0)) := SSok.empty _ _ _ _ _ (fun j h1 h2 => by
      rw [hYf, fresh_getD _ (by have := Hg.out.len; have := Hi2.out; omega), if_neg (by omega), if_pos (by omega)])
    have HYf := Lib.hid hYf
    have hone2 := Lib.hid (ss_one hSS (c : Int))
    have HSS := Lib.hid hSS
    have hck2 : some 17 = some (Value.int .u8 (c : Int) :: List.replicate 16 (Value.slice none 0 0)).length := rfl
    have hl18 : (Value.int .u8 ck' :: ss').length = (Value.int .u8 (c : Int) :: List.replicate 16 (Value.slice none 0 0)).length := hl17.symm
    clear hYf hts hSS
    have qx0 := hqa.cell 0
    simp only [List.getElem?_cons_zero] at qx0
    go_wp2_with (first
      | (refine wpList_alloc 90 zTSa alloc_ts (by rfl) (by rfl) ?_; rw [hwq])
      | (refine wpList_storeB 90 (.tmp 13) (.tmp 51) (by rfl) (by rfl) w3.heap.size (by rfl) (.int .u8 ck' :: ss') (by rfl) _ 90 HE0.out (info_ts.trans hck1) hl17 HO1.out ?_
         intro wK EK gK sK
         have hKb : Below w3.heap.size w3 wK := hqb.trans (rowBelow gK (Nat.le_refl _) (by omega))
         have qx1 := (B3.step hKb).cell 0
         simp only [List.getElem?_cons_zero] at qx1
         have HEK := Lib.hid EK
         have HKb := Lib.hid hKb
         clear EK hKb gK)
      | (refine wpList_storeB 90 (.tmp 13) (.tmp 65) (by rfl) (by rfl) w3.heap.size (by rfl) (.int .u8 (c : Int) :: List.replicate 16 (.slice none 0 0)) (by rfl) _ 90 HEK.out (info_ts.trans hck2) hl18 hone2.out ?_
         intro wL E4 gL sL
         have hLb : Below w3.heap.size w3 wL := HKb.out.trans (rowBelow gL (Nat.le_refl _) (by omega))
         have HE4 := Lib.hid E4
         have HLb := Lib.hid hLb
         clear E4 hLb gL))
    have E4 := HE4.out
    have hLb := HLb.out
    have hSS := HSS.out
    obtain ⟨ss, hss⟩ : ∃ ss : List Value, List.replicate 16 (Value.slice none 0 0) = ss := ⟨_, rfl⟩
    rw [hss] at E4 hSS
    have hR0 : VisR LB n i nib c m nn w.heap.size w3.heap.size F xs w 4 1 Y ay cy ss wL :=
      ⟨Hgy.out, by omega, by decide, HFe.out, Hfr2.out, Hck2.out, T3.step hLb, hApart, A3.step hLb, B3.step hLb, C3.step hLb, E4, hSS.step hLb, hB3.trans (hLb.mono hB3.size), by omega⟩
    go_wp2_with fail
    clear hSS E4 hLb hss HE4 HLb HSS HEK HKb hApart A3 B3 C3 T3 hw3 w0 hB0 a0 b0 c0 l0 hw0
    go_loopw [14, 15] (fun node k wr => ∃ (r nd : Nat) (zs : List Int) (az : Option Addr) (cz : Nat) (ss : List Value), r ≤ 4 ∧ node = .int .i64 (nd : Int) ∧ k = .int .i64 ((r : Int) - 1) ∧ VisR LB n i nib c m nn w.heap.size w3.heap.size F xs w r nd zs az cz ss wr)
      (fun _ k _ => (intOf k + 1).toNat)
    case atStart => exact ⟨4, 1, Y, ay, cy, ss, by omega, rfl, rfl, hR0⟩
    case round =>
      clear hR0
      obtain ⟨r, nd, zs, az, cz, ss, hr, rfl, rfl, R⟩ := hrel
      cases r with
      | zero =>
        have hzF : zs = F := R.go
        have hR := R
        rw [hzF] at R
        have hbelR := R.bel
        have HM := Lib.hid (hM.kept (Below.grownBy hbelR none) (by simp))
        have hD : IsMap D := by obtain ⟨es, ck, _, _, _, e⟩ := hM; exact ⟨_, by first | exact e | exact e.symm⟩
        have hcel : ∃ o : Obj, wr.heap[bm]? = some o ∧ o.isCells = false := by obtain ⟨es, ck, e, _⟩ := HM.out; exact ⟨_, e, rfl⟩
        have hcel0 : ∃ o : Obj, w.heap[bm]? = some o ∧ o.isCells = false := by obtain ⟨es, ck, e, _⟩ := hM; exact ⟨_, e, rfl⟩
        have htsR := R.ss.ts R.chk
        have ca0 := R.A.cell 0
        have ca1 := R.A.cell 1
        simp only [List.getElem?_cons_zero, List.getElem?_cons_succ] at ca0 ca1
        have hkey : keyOf Try.prog 3 (.int .i64 (i : Int)) = some (.int .i64 (i : Int)) := Maps.keyOf_int_mk Try.underlying3 (WalkArith.wf_i64 (n := (i : Int)) (by have := Hi2.out; have := pow_small Hg.out.le; omega))
        have HRR := Lib.hid R
        have Hts9 := Lib.hid htsR
        have hneS : ¬ bm = w.heap.size := by omega
        clear R hR htsR hzF
        have hssl : some 17 = some (Value.int .u8 (c : Int) :: ss).length := by rw [List.length_cons, HRR.out.ss.len]
        go_wp2_with (first
          | (refine wpList_loadB 90 (.tmp 13) (by rfl) (by rfl) w3.heap.size (by rfl) (.int .u8 (c : Int) :: ss) 90 HRR.out.E _ Try.underlying90 rfl (info_ts.trans hssl) ?_)
          | (at_mapUpdate
             refine wpList_mapUpdate_own _ rfl _ _ _ 30 rfl 3 90 lawInt10 Try.underlying30 TR bm nn D rfl HM.out (by unfold maxLen; omega) (.int .i64 (i : Int)) (mkTS (c : Int) ss) (.int .i64 (i : Int)) rfl rfl hkey (.held (mkTS (c : Int) ss)) [] (TR_mk _ _) ?_
             intro wu hownu hgrowu
             have Au := HRR.out.A.keptBy hgrowu (by simp; omega)
             have Cu := HRR.out.C.keptBy hgrowu (by simp; omega)
             have a0 := Au.cell 0
             have a1 := Au.cell 1
             have c0 := Cu.cell 0
             have c1 := Cu.cell 1
             have f0 := Cu.free 0
             have f1 := Cu.free 1
             have Cv := (Cu.set 0 (.int .i64 (n : Int))).set 1 (.slice az F.length cz)
             have d0 := Cv.cell 0
             have d1 := Cv.cell 1
             simp only [List.set_cons_zero, List.set_cons_succ, List.getElem?_cons_zero, List.getElem?_cons_succ] at a0 a1 c0 c1 d0 d1
             have hgw : w.grownBy wu (some bm) := below_then hbelR hgrowu
             have hgv : w.grownBy ((wu.setCell ⟨w.heap.size + 1 + 1, 0, none⟩ (.int .i64 (n : Int))).setCell ⟨w.heap.size + 1 + 1, 1, none⟩ (.slice az F.length cz)) (some bm) :=
               grown_then hgw (((Below.refl w.heap.size wu).setCell (p := ⟨w.heap.size + 1 + 1, 0, none⟩) (by simp; omega) _).setCell (p := ⟨w.heap.size + 1 + 1, 1, none⟩) (by simp; omega) _)
             have hownv := hownu.kept (grown_set2 wu (w.heap.size + 1 + 1) 0 1 (.int .i64 (n : Int)) (.slice az F.length cz)) (by simp; omega)
             have hSv := ((HRR.out.ss.keptBy hgrowu (fun r e => by cases e; exact hcel)).set (c := w.heap.size + 1 + 1) (by omega) 0 (.int .i64 (n : Int))).set (c := w.heap.size + 1 + 1) (by omega) 1 (.slice az F.length cz)
             have hOKv := (hOK.keptBy hgv (fun r e => by cases e; exact hcel0)).put (show 4 * nn ≤ 4 * (nn + 1) by omega) hD i ((hSv.ts HRR.out.chk).up (show 4 * nn + (4 - 0) ≤ 4 * (nn + 1) by omega)) HRR.out.out
             have hTv : Tab F az cz ((wu.setCell ⟨w.heap.size + 1 + 1, 0, none⟩ (.int .i64 (n : Int))).setCell ⟨w.heap.size + 1 + 1, 1, none⟩ (.slice az F.length cz)) := by
               have h1 := HRR.out.tab.keptBy hgrowu (fun r e => by cases e; exact hcel)
               have hf : Fr az (w.heap.size + 3) := fun b o e => (HRR.out.fr b o e).1
               exact (h1.other hf _ 0 _ (by omega)).other hf _ 1 _ (by omega)
             have HPost := Lib.hid (show ∃ a' cap', Tab F a' cap' _ ∧ Fr a' w.heap.size ∧ (∃ D', World.ownsMap _ Try.prog 3 TR bm (nn + 1) D' ∧ MapOK LB (4 * (nn + 1)) n F _ D') ∧ w.grownBy _ (some bm) ∧ a' = az ∧ cap' = cz from
               ⟨az, cz, hTv, fun b o e => by have := (HRR.out.fr b o e).1; omega, ⟨_, hownv, hOKv⟩, hgv, rfl, rfl⟩)
             clear Au Cu Cv hgw hgv hownv hSv hOKv hTv hownu)
          | (exact bodyPost_ret (v := .tuple #[.agg #[.int .i64 (n : Int), .slice az F.length cz], .bool true]) (by simp [results, Try.results14, go_sem, d0, d1]) rfl (by
              obtain ⟨a', cap', h1, h2, h3, h4, rfl, rfl⟩ := HPost.out
              refine ⟨_, _, rfl, ?_, ?_, ?_, ?_⟩; apply h1; apply h2; obtain ⟨D9, q1, q2⟩ := h3; refine ⟨D9, ?_, ?_⟩; with_reducible exact q1; apply q2; with_reducible exact h4)))
      | succ r =>
        have hk : (((r + 1 : Nat) : Int) - 1) = (r : Int) := by omega
        rw [hk]
        have hi2 := Hi2.out
        have hzl := R.good.len
        have hnd1 := R.nd1
        have hnd15 : nd ≤ 15 := by
          have h1 := R.nd2
          have h2 := Nat.two_pow_pos r
          have h3 : (nd + 1) * 2 ≤ (nd + 1) * 2 ^ (r + 1) := Nat.mul_le_mul_left _ (by rw [Nat.pow_succ]; omega)
          omega
        have hnd16 : nd < 16 := by omega
        have hin : 16 * i + nd < zs.length := by omega
        obtain ⟨bt, hbt⟩ : ∃ bt, nib / 2 ^ r % 2 = bt := ⟨_, rfl⟩
        have hbt2 : bt < 2 := by omega
        have hand : bits .and .i64 ((nib : Int) / 2 ^ r) 1 = (bt : Int) := by
          have e : (nib : Int) / 2 ^ r = ((nib / 2 ^ r : Nat) : Int) := by rw [Int.natCast_ediv, Int.natCast_pow]; rfl
          rw [e, show (1 : Int) = ((1 : Nat) : Int) from rfl, bits_and_nat _ _ (Nat.lt_of_le_of_lt (Nat.div_le_self _ _) (by omega)) (by omega), Nat.and_one_is_mod, hbt]
        have hgo := R.go
        simp only [S10.visGo, hbt] at hgo
        have hst := R.good.st (16 * i + nd) hin (by omega)
        have hst0 := (R.good.getD (16 * i + nd)).1
        have HG := Lib.hid fun W hW => get10_any (n : Int) zs (i : Int) (nd : Int) az cz W hW
        rw [R.good.getN hi2 hnd1 hnd15, R.good.node hi2 hnd1 hnd15] at HG
        obtain ⟨v, hv, bs, ab, cb, rfl, hrdb, hb2, hbl, hsta, hap⟩ := R.ss.seen nd hnd1 hnd15
        obtain ⟨stt, hstt⟩ : ∃ st, zs.getD (16 * i + nd) 0 = st := ⟨_, rfl⟩
        rw [hstt] at hgo hst hst0 HG hsta
        have hbl2 : bs.length ≤ 5000 := by omega
        have HTs := Lib.hid fun W hW => tryState10_any bs hb2 ab cb (by omega) W hW
        rw [hsta] at HTs
        have hnx := S09.next_range (s := stt) ⟨hst0, hst⟩ (b := bt) (by omega)
        have HNx := Lib.hid fun W => (show Calls Try.prog 41 #[.int .i64 stt, .int .i64 (bt : Int)] W fun e w' => e = .returned (.tuple #[.int .i64 (S09.next stt bt), .int .i64 0]) ∧ Below W.heap.size W w' by
          have hx := S09.nextS_ok (s := stt) ⟨hst0, hst⟩ (b := bt) (by omega)
          have h := next09_any stt (bt : Int) W
          rw [hx.1, hx.2] at h
          exact h)
        obtain ⟨nx, hnxe⟩ : ∃ nx, S09.next stt bt = nx := ⟨_, rfl⟩
        rw [hnxe] at hgo hnx HNx
        have HSt := Lib.hid fun W hW => set10_at (n : Int) zs (i : Int) (nd : Int) nx (n : Int) (zs.set (16 * i + nd) nx) (R.good.setB hi2 hnd1 hnd15 hnx) (R.good.setX hi2 hnd1 hnd15 hnx) (R.good.setE hi2 hnd1 hnd15 hnx) az cz W hW
        have hgood2 := R.good.set (16 * i + nd) nx ⟨hnx.1, by omega⟩ (fun _ => hnx.2)
        obtain ⟨ys, hys⟩ : ∃ ys, zs.set (16 * i + nd) nx = ys := ⟨_, rfl⟩
        have hout2 : ∀ q, q < 16 * i ∨ 16 * i + 16 ≤ q → ys.getD q 0 = xs.getD q 0 := fun q hq => by
          rw [← hys, List.getD, List.getElem?_set_ne (by omega)]; exact R.out q hq
        have hchk2 : ys.getD (16 * i) 0 = (c : Int) := by
          rw [← hys, List.getD, List.getElem?_set_ne (by omega)]; exact R.chk
        have hyl : ys.length = 16 * 2 ^ n := by rw [← hys, List.length_set]; exact hzl
        rw [hys] at hgo HSt hgood2
        have hB := R.bel
        have x2 := R.B.cell 2
        have a0 := R.A.cell 0
        have a1 := R.A.cell 1
        simp only [List.getElem?_cons_zero, List.getElem?_cons_succ] at x2 a0 a1
        have hQ := R.q
        have lq := R.E.lt
        unfold tabV at *
        have HR := Lib.hid R
        have Hgo := Lib.hid hgo
        have Hg2 := Lib.hid hgood2
        have Ho2 := Lib.hid hout2
        have Hc2 := Lib.hid hchk2
        have Hyl2 := Lib.hid hyl
        have Hys := Lib.hid hys
        have Hin := Lib.hid hin
        have Hap := Lib.hid hap
        have Hv := Lib.hid hv
        have Hb2 := Lib.hid hb2
        have Hsta := Lib.hid hsta
        have Hnx := Lib.hid hnxe
        clear R hgo hgood2 hout2 hchk2 hyl hys hap hv hb2 hsta hnxe hin hzl hbt hstt
        go_wp2_with fail
        refine (HG.out _ HR.out.tab).mono ?_
        rintro e w4 ⟨rfl, hb4⟩
        have hrd4 := hrdb.step hb4
        have x4 : w4.cell? ⟨w3.heap.size, 1 + nd, none⟩ = some (.slice ab bs.length cb) := by
          rw [(HR.out.E.step hb4).cell, Nat.add_comm, List.getElem?_cons_succ]; exact Hv.out
        have b0 := (HR.out.A.step hb4).cell 0
        go_wp2_with fail
        refine (HTs.out _ hrd4).mono ?_
        rintro e w5 ⟨rfl, hb5⟩
        have hb5' := below_trans hb4 hb5
        clear x4 hrd4 b0
        have ebne : (stt != stt) = false := by simp
        go_wp2_with fail
        refine (HNx.out _).mono ?_
        rintro e w6 ⟨rfl, hb6⟩
        have hb6' := below_trans hb5' hb6
        have A6 := HR.out.A.step hb6'
        have a60 := A6.cell 0
        have a61 := A6.cell 1
        simp only [List.getElem?_cons_zero, List.getElem?_cons_succ] at a60 a61
        go_wp2_with fail
        refine (HSt.out _ (HR.out.tab.step hb6')).mono ?_
        rintro e w7 ⟨ar, cr, rfl, hT7, hF7, hb7⟩
        have hb7' := below_trans hb6' hb7
        have A7 := HR.out.A.step hb7'
        have E7 := HR.out.E.step hb7'
        have hrd7 := hrdb.step hb7'
        have z7 := hb7'.size
        have lq7 := E7.lt
        clear A6 a60 a61
        obtain ⟨w8, hw8⟩ : ∃ w8, w7.alloc (Obj.cells #[.int .i64 (n : Int), .slice ar ys.length cr] 26) = w8 := ⟨_, rfl⟩
        have hb8 : Below w7.heap.size w7 w8 := by rw [← hw8]; exact (Below.refl _ _).alloc (Nat.le_refl _) _
        obtain ⟨w9, hw9⟩ : ∃ w9, w8.alloc (Obj.cells #[] 3) = w9 := ⟨_, rfl⟩
        have hb9 : Below w8.heap.size w8 w9 := by rw [← hw9]; exact (Below.refl _ _).alloc (Nat.le_refl _) _
        have hb9' := below_trans (below_trans hb7' hb8) hb9
        have G8 : Blk w8 w7.heap.size [.int .i64 (n : Int), .slice ar ys.length cr] 26 := by rw [← hw8]; exact Blk.new w7 _ _
        have hs8 : w8.heap.size = w7.heap.size + 1 := by rw [← hw8]; simp
        have E9 := HR.out.E.step hb9'
        have x9 : w9.cell? ⟨w3.heap.size, 1 + nd, none⟩ = some (.slice ab bs.length cb) := by
          rw [E9.cell, Nat.add_comm, List.getElem?_cons_succ]; exact Hv.out
        have hrd9 := hrdb.step hb9'
        have hown9 : w9.ownsRow w8.heap.size 3 1 (.slice (some ⟨w8.heap.size, 0, none⟩) 0 0) 0 [] := by rw [← hw9]; exact World.ownsRow_made w8 #[] 0 (Nat.le_refl _) (by decide) rfl
        rw [hs8] at hown9
        have Hown9 := Lib.hid hown9
        have Hrd9 := Lib.hid hrd9
        have hsz9 : w7.heap.size + 1 ≤ w9.heap.size := by have := hb9.size; omega
        clear hown9 hrd9
        have hb79 := below_trans hb8 hb9
        have R7 := HR.out.ss.step hb7'
        have lq7' := lq7
        go_wp2_with first
          | (at_builtin; refine wpList_append_rd (.tmp 125) (.tmp 129) 75 3 1 8 _ (w7.heap.size + 1) elems_int1 rfl rfl _ 0 [] rfl Hown9.out ab bs.length cb (Nts bs) rfl (by simp [Nts]) Hrd9.out (Nts_one _) (by unfold maxLen; omega) (by omega) hsz9 ?_; intro a2 cap2 w10 hown10 hgrow10; have Hown10 := Lib.hid (show w10.ownsRow (w7.heap.size + 1) 3 1 (.slice a2 bs.length cap2) bs.length (Nts bs) from (by simpa using hown10)); (try rw [Nat.zero_add]); have Hgrow10 := Lib.hid hgrow10; clear hown10 hgrow10)
          | (at_builtin
             refine wpList_append_rd (.tmp 130) (.tmp 132) 75 3 1 8 _ (w7.heap.size + 1) elems_int1 rfl rfl _ bs.length (Nts bs) rfl (Hown10.out.alloc _) (some ⟨w10.heap.size, 0, none⟩) 1 1 (Nts [bt]) rfl (by simp [Nts]) (Rd.new w10 [.int .i64 (bt : Int)] 3) (Nts_one _) (by unfold maxLen; omega) (by omega) (by have := Hgrow10.out.size; simp; omega) ?_
             intro a3 cap3 w12 hown12 hgrow12
             have hb10 : Below w7.heap.size w7 w10 := Below.grown hb79 Hgrow10.out (by have := hb79.size; omega) (fun k e => by have h : w7.heap.size + 1 = k := (by cases e; rfl); omega)
             have hb12 : Below w7.heap.size w7 w12 := Below.grown (hb10.alloc hb10.size _) hgrow12 (by have := hb10.size; simp; omega) (fun k e => by have := (owns_block Hown10.out e).1; omega)
             have hb12' := below_trans hb7' hb12
             have hrd12 := Rd.of_owns hown12
             have hgb : ∀ b o, a3 = some ⟨b, o, none⟩ → w7.heap.size + 1 ≤ b := fun b o e => (owns_block hown12 (by rw [e]; rfl)).1
             have A12 := HR.out.A.step hb12'
             have B12 := HR.out.B.step hb12'
             have C12 := HR.out.C.step hb12'
             have E12 := HR.out.E.step hb12'
             have G12 := (G8.step hb9).below (Below.grown (Below.grown (Below.refl w8.heap.size w9) Hgrow10.out (by have := hb9.size; omega) (fun k e => by have h : w7.heap.size + 1 = k := (by cases e; rfl); omega) |>.alloc (by have := Hgrow10.out.size; have := hb9.size; omega) (Obj.cells #[.int .i64 (bt : Int)] 3)) hgrow12 (by have := Hgrow10.out.size; have := hb9.size; simp; omega) (fun k e => by have := (owns_block Hown10.out e).1; omega)) (by omega)
             have T12 := hT7.step hb12
             have S12 := HR.out.ss.step hb12'
             have hS12 : SeenO LB w.heap.size (w.heap.size + 3) (4 * nn + (4 - (r + 1)) + 1) w12 (.slice a3 (bs.length + 1) cap3) nx := by
               refine ⟨bs ++ [bt], a3, cap3, by rw [List.length_append, List.length_singleton], ?_, ?_, by rw [List.length_append, List.length_singleton]; omega, by rw [S10.sta_snoc, Hsta.out, Hnx.out], fun _ b o e => ⟨by have := hgb b o e; omega, .inr (by have := hgb b o e; omega)⟩⟩
               · rw [show Nts (bs ++ [bt]) = Nts bs ++ Nts [bt] by simp [Nts]]; exact hrd12
               · intro x hx
                 rcases List.mem_append.1 hx with hx | hx
                 · exact Hb2.out x hx
                 · rw [List.mem_singleton.1 hx]; exact hbt2
             have xe : w12.cell? ⟨w3.heap.size, 1 + nd, none⟩ = some (.slice ab bs.length cb) := by rw [E12.cell, Nat.add_comm, List.getElem?_cons_succ]; exact Hv.out
             have fe := E12.free (1 + nd)
             have hni := S12.noint (c : Int)
             have E13 := E12.set (1 + nd) (.slice a3 (bs.length + 1) cap3)
             have A13 := A12.other w3.heap.size (1 + nd) (.slice a3 (bs.length + 1) cap3) (by omega)
             have B13 := B12.other w3.heap.size (1 + nd) (.slice a3 (bs.length + 1) cap3) (by omega)
             have C13 := C12.other w3.heap.size (1 + nd) (.slice a3 (bs.length + 1) cap3) (by omega)
             have G13 := G12.other w3.heap.size (1 + nd) (.slice a3 (bs.length + 1) cap3) (by omega)
             have T13 := T12.other hF7 w3.heap.size (1 + nd) (.slice a3 (bs.length + 1) cap3) (by have := hb6'.size; omega)
             have S13 := S12.setB E12 hni (1 + nd) (.slice a3 (bs.length + 1) cap3)
             have hS13 := hS12.setB E12 hni (1 + nd) (.slice a3 (bs.length + 1) cap3)
             have hB13 := (HR.out.bel.trans (hb12'.mono HR.out.bel.size)).setCell (p := ⟨w3.heap.size, 1 + nd, none⟩) (by simp; omega) (.slice a3 (bs.length + 1) cap3)
             rw [Nat.add_comm 1 nd, List.set_cons_succ, Nat.add_comm nd 1] at E13
             obtain ⟨w13, hw13⟩ : ∃ w13, w12.setCell ⟨w3.heap.size, 1 + nd, none⟩ (.slice a3 (bs.length + 1) cap3) = w13 := ⟨_, rfl⟩
             rw [hw13] at E13 A13 B13 C13 G13 T13 S13 hS13 hB13
             obtain ⟨ss2, hss2⟩ : ∃ ss2, ss.set nd (.slice a3 (bs.length + 1) cap3) = ss2 := ⟨_, rfl⟩
             have S13b := S13.put hnd1 hnd15 hS13 Hin.out
             rw [Hys.out, hss2] at S13b
             rw [hss2] at E13
             have u0 := A13.cell 0
             have u1 := A13.cell 1
             have v0 := A13.free 0
             have v1 := A13.free 1
             have t0 := G13.cell 0
             have t1 := G13.cell 1
             have A14 := (A13.set 0 (.int .i64 (n : Int))).set 1 (.slice ar ys.length cr)
             have B14 := (B13.other w.heap.size 0 (.int .i64 (n : Int)) (by omega)).other w.heap.size 1 (.slice ar ys.length cr) (by omega)
             have C14 := (C13.other w.heap.size 0 (.int .i64 (n : Int)) (by omega)).other w.heap.size 1 (.slice ar ys.length cr) (by omega)
             have E14 := (E13.other w.heap.size 0 (.int .i64 (n : Int)) (by omega)).other w.heap.size 1 (.slice ar ys.length cr) (by omega)
             have T14 := (T13.other hF7 w.heap.size 0 (.int .i64 (n : Int)) (by have := hb6'.size; have := HR.out.E.lt; omega)).other hF7 w.heap.size 1 (.slice ar ys.length cr) (by have := hb6'.size; have := HR.out.E.lt; omega)
             have S14 := (S13b.set (c := w.heap.size) (by omega) 0 (.int .i64 (n : Int))).set (c := w.heap.size) (by omega) 1 (.slice ar ys.length cr)
             have hB14 := (hB13.setCell (p := ⟨w.heap.size, 0, none⟩) (by simp) (.int .i64 (n : Int))).setCell (p := ⟨w.heap.size, 1, none⟩) (by simp) (.slice ar ys.length cr)
             simp only [List.set_cons_zero, List.set_cons_succ, List.getElem?_cons_zero, List.getElem?_cons_succ] at u0 u1 t0 t1 A14
             obtain ⟨w14, hw14⟩ : ∃ w14, (w13.setCell ⟨w.heap.size, 0, none⟩ (.int .i64 (n : Int))).setCell ⟨w.heap.size, 1, none⟩ (.slice ar ys.length cr) = w14 := ⟨_, rfl⟩
             rw [hw14] at A14 B14 C14 E14 T14 S14 hB14
             have hfr14 : ∀ b o, ar = some ⟨b, o, none⟩ → w.heap.size + 3 ≤ b ∧ ¬ b = w3.heap.size := fun b o e => by have := hF7 b o e; have := hb6'.size; have := HR.out.E.lt; omega
             have hk4 : 4 * nn + (4 - (r + 1)) + 1 = 4 * nn + (4 - r) := by omega
             rw [hk4] at S14
             have HR2 : RowKit.Hid (VisR LB n i nib c m nn w.heap.size w3.heap.size F xs w r (2 * nd + bt) ys ar cr ss2 w14) := Lib.hid ⟨Hg2.out, by omega, by
               have h2 := HR.out.nd2
               rw [Nat.pow_succ] at h2
               have h3 : (2 * nd + bt + 1) * 2 ^ r ≤ (2 * nd + 2) * 2 ^ r := Nat.mul_le_mul_right _ (by omega)
               have h4 : (2 * nd + 2) * 2 ^ r = (nd + 1) * (2 ^ r * 2) := by rw [Nat.mul_comm (2 ^ r) 2, ← Nat.mul_assoc]; congr 1; omega
               omega, Hgo.out, Ho2.out, Hc2.out, T14, hfr14, A14, B14, C14, E14, S14, hB14, hQ⟩
             have hnd40 : nd ≤ 15 := hnd15
             clear hown12 hgrow12 hb10 hb12 hb12' hrd12 hgb A12 B12 C12 E12 G12 T12 S12 hS12 hni E13 A13 B13 C13 G13 T13 S13 hS13 hB13 S13b A14 B14 C14 E14 T14 S14 hB14 hss2 hk4)
        go_roundw
        case rel => exact ⟨r, 2 * nd + bt, ys, ar, cr, ss2, by omega, by go_num, by go_num, HR2.out⟩
        case measure => simp [intOf] <;> omega
end Go.Proofs.Ytgbjckjfjoiilaa
