/- The law SlotsRemembers, walked. No condition. -/
import Derived.Test.YtgbjckjfjoiilaaW10ao
set_option linter.unusedSimpArgs false
set_option linter.unusedVariables false
set_option linter.unusedSectionVars false
namespace Go.Proofs.Ytgbjckjfjoiilaa
open Go.RowKit Go.Maps

theorem lawU32 : Keyed Try.prog 43 := int_keyed Try.underlying43
theorem invK10 (key : Value) (kl : Lit) (h : keyOf Try.prog 43 key = some kl) : ∃ x, key = Value.int .u32 x := by
  obtain ⟨x, rfl, _⟩ := Maps.keyOf_int_inv Try.underlying43 h
  exact ⟨x, rfl⟩

theorem Rd.atAdd {w : World} {b o : Nat} {xs : List Int} (h : Rd w (some ⟨b, o, none⟩) (Bts xs)) (i : Nat) (hi : i < xs.length) : w.cell? ((⟨b, o, none⟩ : Addr).add i) = some (.int .u8 (xs.getD i 0)) := by
  have he : (Bts xs)[i]? = some (.int .u8 (xs.getD i 0)) := by
    unfold Bts
    rw [List.getElem?_map, List.getElem?_eq_getElem hi]
    simp [List.getD, List.getElem?_eq_getElem hi]
  obtain ⟨b', o', e, hc⟩ := h (fun e => by rw [e] at he; cases he)
  cases e
  have := hc i _ he
  unfold Addr.add
  by_cases h0 : i = 0
  · subst h0; rw [if_pos rfl]; exact this
  · rw [if_neg h0]; exact this

theorem grownBy_setCellI (W : World) (b i : Nat) (v : Value) : W.grownBy (W.setCell ⟨b, i, none⟩ v) (some b) :=
  ⟨rfl, rfl, rfl, (KeepsWalks.setCell W _ v).size, fun k _ hk => Below.heap_setCell _ _ _ k (fun e => hk (by rw [e]))⟩
theorem Rd.off {w : World} {a : Option Addr} {vals cs : List Value} {S : Nat} {t : TypeId} (h : Rd w a vals) (A : Blk w S cs t) (hv : ∀ v ∈ vals, v ∉ cs) (i : Nat) (u : Value) : Rd (w.setCell ⟨S, i, none⟩ u) a vals := fun hne => by
  obtain ⟨b, o, rfl, hcs⟩ := h hne
  have hb : ¬ b = S := fun e => by
    subst e
    cases vals with
    | nil => exact hne rfl
    | cons x xs =>
      have h1 := hcs 0 x rfl
      rw [A.cell] at h1
      exact hv x List.mem_cons_self (List.mem_of_getElem? h1)
  refine ⟨b, o, rfl, fun j v hj => ?_⟩
  rw [World.cell?_setCell_other _ _ _ _ (fun e => hb (congrArg Addr.block e).symm)]
  exact hcs j v hj
theorem Kept.setS {n : Nat} {xs : List Int} {w : World} {kl : Lit} {v : Value} {S k c : Nat} {z : Int} {b : Option Addr} {t : TypeId} (h : Kept n xs w kl v) (A : Blk w S [.int .i64 z, .slice b k c] t) (i : Nat) (u : Value) : Kept n xs (w.setCell ⟨S, i, none⟩ u) kl v := by
  obtain ⟨h', i', a, c', h1, h2, h3, h4, h5⟩ := h
  refine ⟨h', i', a, c', h1, h2, h3, h4, h5.off A (fun v hv => ?_) i u⟩
  unfold Bts at hv
  obtain ⟨x, _, rfl⟩ := List.mem_map.1 hv
  simp
theorem keptPut {n h : Nat} {Z : List Int} {A B : World} {row : Option Nat} {D : DataW Value} {V : Value} (hZ : ∀ kl v, (∀ zd, D.atKey kl zd = .held v) → Kept n Z A kl v) (hK : Kept n Z A (Lit.int .u32 (h : Int)) V) (hD : IsMap D) (hg : A.grownBy B row) (hr : ∀ r, row = some r → ∃ o : Obj, A.heap[r]? = some o ∧ o.isCells = false) :
    ∀ kl v, (∀ zd, (D.put (Lit.int .u32 (h : Int)) (.held V)).atKey kl zd = .held v) → Kept n Z B kl v := fun kl v hv => by
  by_cases e : kl = Lit.int .u32 (h : Int)
  · subst e
    have h1 := hv .nil
    rw [Maps.atKey_put_same hD (by simp [WideAt.IsKeyLit])] at h1
    cases h1
    exact hK.keptBy hg hr
  · exact (hZ kl v (fun zd => by rw [← hv zd, Maps.atKey_put_other e])).keptBy hg hr

set_option maxRecDepth 100000 in
set_option maxHeartbeats 1000000 in
theorem slotsRemembers_any (b : Nat) (hb : b < 256) (l : List Stp) (hok : ∀ s ∈ l, s.ok) (hlen : l.length ≤ 9223372036854775807) (a : Option Addr) (cap : Nat) (w : World) (hrd : Rd w a (Stps l)) :
    Calls Try.prog 11 #[.int .u8 (b : Int), .slice a l.length cap] w fun e w' => e = .returned (.bool true) ∧ Below w.heap.size w w' := by
  have HA := Lib.hid awake10_any
  obtain ⟨n, hn⟩ : ∃ n, n = b % 6 := ⟨_, rfl⟩
  have hn6 : n < 6 := by omega
  have en : (b : Int) % 6 = (n : Int) := by omega
  have H0 := Lib.hid fun W => new10_ok n (by omega) W
  have e0 : S10.runs n (l.take 0) = List.replicate (16 * 2 ^ n) 0 := rfl
  obtain ⟨X0, hX0⟩ : ∃ X, List.replicate (16 * 2 ^ n) (0 : Int) = X := ⟨_, rfl⟩
  rw [hX0] at H0 e0
  have HX0 := Lib.hid e0
  clear hn e0 hX0
  by_cases hfew : 30 < l.length
  · unfold tabV at *
    go_enter Try.func11, Try.ntmps11
    go_wp2_with fail
    refine (H0.out _).mono ?_
    rintro e w1 ⟨a1, c1, rfl, hT1, hF1, hb1⟩
    have hBa := hb1.alloc hb1.size (Obj.cells #[.int .i64 (n : Int), .slice a1 X0.length c1] 26)
    go_wp2_with fail
    refine (HA.out _).mono ?_
    rintro e w2 ⟨rfl, hb2⟩
    have hB2 := below_trans hBa hb2
    go_wp2
    go_returns
    exact ⟨rfl, hB2⟩
  · have HR := Lib.hid fun xs hg s hs a cap W h => run10_go n xs hg s hs a cap W h
    have HG := Lib.hid fun k => Good.runs (n := n) (by omega) (l := l.take k) (fun s hs => hok s (List.mem_of_mem_take hs))
    have Hsn := Lib.hid fun k (hk : k < l.length) => (show S10.runs n (l.take (k + 1)) = S10.go n (S10.runs n (l.take k)) (l[k]'hk) by rw [List.take_succ_eq_append_getElem hk, S10.runs_snoc])
    have Hok := Lib.hid fun k (hk : k < l.length) => hok (l[k]'hk) (List.getElem_mem hk)
    have Hat := Lib.hid fun k (hk : k < l.length) => (show l[k]? = some (l[k]'hk) from List.getElem?_eq_getElem hk)
    have hmm := @run_makeMap Try.prog
    unfold tabV at *
    go_enter Try.func11, Try.ntmps11
    go_wp2_with fail
    refine (H0.out _).mono ?_
    rintro e w1 ⟨a1, c1, rfl, hT1, hF1, hb1⟩
    obtain ⟨S, hS⟩ : ∃ S, w1.heap.size = S := ⟨_, rfl⟩
    obtain ⟨w2, hw2⟩ : ∃ w2, (w1.alloc (Obj.cells #[.int .i64 (n : Int), .slice a1 X0.length c1] 26)).alloc (.map #[] 0) = w2 := ⟨_, rfl⟩
    have hb2 : Below w1.heap.size w1 w2 := by rw [← hw2]; exact ((Below.refl _ w1).alloc (Nat.le_refl _) _).alloc (by simp) _
    have A2 : Blk w2 S [.int .i64 (n : Int), .slice a1 X0.length c1] 26 := by rw [← hw2, ← hS]; exact (Blk.new w1 _ _).alloc _
    have M2 : w2.ownsMap Try.prog 43 KR (S + 1) 0 (.map []) := by
      have h := World.ownsMap_made (w1.alloc (Obj.cells #[.int .i64 (n : Int), .slice a1 X0.length c1] 26)) Try.prog 43 KR
      rw [World.size_alloc, hS, hw2] at h
      exact h
    have hB2 := below_trans hb1 hb2
    have T2 := hT1.step hb2
    have zS : w.heap.size ≤ S := by have := hb1.size; omega
    go_wp2
    go_loopw [43] (fun t wr => ∃ k : Nat, k ≤ l.length ∧ t = .int .i64 (k : Int) ∧
        (∃ X a' c', X = S10.runs n (l.take k) ∧ Blk wr S [.int .i64 (n : Int), .slice a' X.length c'] 26 ∧ Tab X a' c' wr ∧
          ∃ D nn, nn ≤ k ∧ wr.ownsMap Try.prog 43 KR (S + 1) nn D ∧ ∀ kl v, (∀ zd, D.atKey kl zd = .held v) → Kept n X wr kl v) ∧ Below w.heap.size w wr)
      (fun t _ => l.length - (intOf t).toNat)
    case atStart => exact ⟨0, by omega, rfl, ⟨X0, a1, c1, HX0.out.symm, A2, T2, _, 0, by omega, M2, fun kl v hv => by have := hv .nil; cases this⟩, hB2⟩
    case round =>
      obtain ⟨k, hk, rfl, ⟨X, ar, cr, hX, Ar, Tr, D, nn, hnn, Mr, hQ⟩, hB⟩ := hrel
      by_cases hlt : k < l.length
      · have hg := HG.out k
        have hsn := Hsn.out k hlt
        have hso := Hok.out k hlt
        have hat := Hat.out k hlt
        rw [← hX] at hg hsn
        obtain ⟨g, o, rfl, hcs⟩ := hrd.step hB (fun e => by have h1 := congrArg List.length e; rw [Stps_length] at h1; simp at h1; omega)
        obtain ⟨s, hs⟩ : ∃ s, l[k]'hlt = s := ⟨_, rfl⟩
        rw [hs] at hsn hso hat
        have x0 : wr.cell? ⟨g, o + k * 3, none⟩ = some (.int .u32 (s.h : Int)) := by
          have := hcs (3 * k + 0) _ ((Stps_at l hat (j := 0) (by omega)).trans rfl)
          rw [show o + (3 * k + 0) = o + k * 3 by omega] at this; exact this
        have x1 : wr.cell? ⟨g, o + k * 3 + 1, none⟩ = some (.int .u8 (s.N : Int)) := by
          have := hcs (3 * k + 1) _ ((Stps_at l hat (j := 1) (by omega)).trans rfl)
          rw [show o + (3 * k + 1) = o + k * 3 + 1 by omega] at this; exact this
        have x2 : wr.cell? ⟨g, o + k * 3 + 2, none⟩ = some (.int .u8 (s.B : Int)) := by
          have := hcs (3 * k + 2) _ ((Stps_at l hat (j := 2) (by omega)).trans rfl)
          rw [show o + (3 * k + 2) = o + k * 3 + 2 by omega] at this; exact this
        have R1 := Lib.hid fun W hW => HR.out X hg s hso ar cr W hW
        have hgo : S10.go n X s = S10.runX n X s.h (1 + s.N % 15) (s.B % 2) := rfl
        have hoth := fun (g i : Nat) hs hf => runX_other hg (h := s.h) (k := 1 + s.N % 15) (b := s.B % 2) (g := g) (i := i) (by omega) (by omega) hso.1 (by omega) hs hf
        have hfnd := runX_find hg (h := s.h) (k := 1 + s.N % 15) (b := s.B % 2) (by omega) (by omega)
        have hgz := hg.go hso
        have hil := hg.openN_lt s.h
        rw [← hgo] at hfnd
        simp only [← hgo] at hoth
        obtain ⟨Z, hZ⟩ : ∃ Z, S10.go n X s = Z := ⟨_, rfl⟩
        obtain ⟨iz, hiz⟩ : ∃ i, S10.openN (n : Int) X s.h = i := ⟨_, rfl⟩
        rw [hZ] at hsn R1 hfnd hgz
        rw [hiz] at R1 hfnd hil
        simp only [hZ] at hoth
        have Hs1 := Lib.hid hsn
        have Hoth := Lib.hid hoth
        have Hfnd := Lib.hid hfnd
        have Hgz := Lib.hid hgz
        have Hil := Lib.hid hil
        have Hso := Lib.hid hso
        have hgb := block_lt_of_cell x0
        have hgb1 := block_lt_of_cell x1
        simp only at hgb hgb1
        have k0 := Ar.cell 0
        have k1 := Ar.cell 1
        have lr := Ar.lt
        simp only [List.getElem?_cons_zero, List.getElem?_cons_succ] at k0 k1
        have HXk := Lib.hid hX
        clear hcs hsn hat hs hX hg hso hgo hoth hfnd hZ hiz hgz hil
        go_wp2_with fail
        refine (R1.out _ (Tr.alloc _)).mono ?_
        rintro e w5 ⟨a5, c5, rfl, hT5, hF5, hb5⟩
        have hba : Below wr.heap.size wr (wr.alloc (Obj.cells #[.int .u32 (s.h : Int), .int .u8 (s.N : Int), .int .u8 (s.B : Int)] 64)) := (Below.refl _ wr).alloc (Nat.le_refl _) _
        have hb5' := below_trans hba hb5
        have hB5 := below_trans hB hb5'
        have A5 := Ar.step hb5'
        have XB5 := (Blk.new wr [.int .u32 (s.h : Int), .int .u8 (s.N : Int), .int .u8 (s.B : Int)] 64).step hb5
        have M5 : w5.ownsMap Try.prog 43 KR (S + 1) nn D := Mr.kept (Below.grownBy hb5' none) (by simp)
        have Q5 := fun kl v hv => (hQ kl v hv).keptBy (Below.grownBy hb5' none) (fun r e => by cases e)
        obtain ⟨w6, hw6⟩ : ∃ w6, w5.alloc (Obj.cells #[.int .i64 (n : Int), .slice a5 Z.length c5] 26) = w6 := ⟨_, rfl⟩
        have hb6 : Below w5.heap.size w5 w6 := by rw [← hw6]; exact (Below.refl _ w5).alloc (Nat.le_refl _) _
        have N6 : Blk w6 w5.heap.size [.int .i64 (n : Int), .slice a5 Z.length c5] 26 := by rw [← hw6]; exact Blk.new w5 _ _
        have hB6 := below_trans hB5 hb6
        have A6 := A5.step hb6
        have XB6 := XB5.step hb6
        have T6 := hT5.step hb6
        have M6 : w6.ownsMap Try.prog 43 KR (S + 1) nn D := M5.kept (Below.grownBy hb6 none) (by simp)
        have R6 := Rem.start Z (fun kl v hv => (Q5 kl v hv).keptBy (Below.grownBy hb6 none) (fun r e => by cases e))
        clear Ar Tr Mr hQ A5 XB5 M5 Q5 hT5 x0 x1 x2 k0 k1
        go_wp2_with (at_range; refine wpList_range_own _ rfl _ 79 rfl 43 81 lawU32 Try.underlying79 _ (S + 1) nn _ rfl M6 ?_; intro w7 hrg7 hg7 hs7)
        go_frame
        have hmap : ∃ o : Obj, w6.heap[S + 1]? = some o ∧ o.isCells = false := by obtain ⟨es, ck, hh, _⟩ := M6; exact ⟨_, hh, rfl⟩
        have hmr : ∀ r, some (S + 1) = some r → ∃ o : Obj, w6.heap[r]? = some o ∧ o.isCells = false := fun r e => by cases e; exact hmap
        have zS6 : S + 1 < w6.heap.size := by obtain ⟨o, ho, _⟩ := hmap; exact (Array.getElem?_eq_some_iff.1 ho).1
        obtain ⟨wo, hwo⟩ : ∃ wo, wo = wr := ⟨_, rfl⟩
        subst hwo
        go_loopw [14] (fun _ wr => ∃ (left : Lit → Bool) (cnt : Nat) (D' : DataW Value), wr.ranges Try.prog 43 KR (S + 1) w6.heap.size nn D' left cnt ∧ Rem n X Z wr D' left ∧ w6.grownBy wr (some (S + 1)))
          (fun _ wr => wr.rangeLeft (S + 1) w6.heap.size)
        case atStart => exact ⟨_, _, D, hrg7, R6.keptBy hg7 (fun r e => by cases e), hg7.but _⟩
        case round =>
          obtain ⟨left, cnt, D', hrg, hRem, hgw⟩ := hrel
          have NW := N6.kept hgw hmr
          have XW := XB6.kept hgw hmr
          have AW := A6.kept hgw hmr
          have TW := T6.keptBy hgw hmr
          have hBW : Below w.heap.size w wr := hB6.trans (grownBy_below hgw (by omega) hB6.size)
          go_wp2_with (at_next; refine wpList_next_ranges (α := Int) (β := KSh) _ rfl _ rfl 43 lawU32 KR (Value.int .u32) mkKV invK10 (fun v y hv => (KR_inv hv).1) (S + 1) w6.heap.size nn D' left cnt rfl hrg ?_ ?_)
          · intro _ hl0
            have hZall := hRem.finish hl0
            have Mw := hrg.owns
            have hFi := fun W hW => Find10_any (n : Int) Z s.h Hso.out.1 a5 c5 W hW
            have e1 : S10.findN (n : Int) Z s.h = iz := by unfold S10.findN; rw [if_pos Hgz.out.check, Int.toNat_natCast, Hfnd.out]; rfl
            have e2 : S10.findB (n : Int) Z s.h = true := by unfold S10.findB; rw [if_pos Hgz.out.check, Int.toNat_natCast, Hfnd.out]; rfl
            rw [e1, e2] at hFi
            have HFi := Lib.hid hFi
            have hil' := Hil.out
            have hzl := Hgz.out.len
            have hps := pow_small Hgz.out.le
            have hin : 16 * iz + 16 ≤ Z.length := by omega
            have hZl : Z.length ≤ 1048576 := by omega
            have hZ0 : Z ≠ [] := by intro e; rw [e] at hin; simp at hin
            have Hin := Lib.hid hin
            have HZl := Lib.hid hZl
            have HZ0 := Lib.hid hZ0
            unfold tabV at HFi
            have x0 := XW.cell 0
            have k0 := NW.cell 0
            have k1 := NW.cell 1
            simp only [List.getElem?_cons_zero, List.getElem?_cons_succ] at x0 k0 k1
            clear hFi e1 e2 hil' hzl hps hin hZl hZ0 hRem hrg
            obtain ⟨wq, hwq⟩ : ∃ wq : Nat, wq = w6.heap.size := ⟨_, rfl⟩
            go_wp2_with fail
            refine (HFi.out _ TW).mono ?_
            rintro e w9 ⟨rfl, hb9⟩
            have N9 := NW.step hb9
            have X9 := XW.step hb9
            have A9 := AW.step hb9
            have T9 := TW.step hb9
            have M9 : w9.ownsMap Try.prog 43 KR (S + 1) nn D' := Mw.kept (Below.grownBy hb9 none) (by simp)
            have Z9 := fun kl v hv => (hZall kl v hv).keptBy (Below.grownBy hb9 none) (fun r e => by cases e)
            have hB9 := below_trans hBW hb9
            obtain ⟨g5, o5, rfl, _⟩ := T9.rd (fun e => HZ0.out (by have h1 := congrArg List.length e; rw [Bts_length] at h1; exact List.length_eq_zero_iff.1 (by simpa using h1)))
            have HL := Lib.hid fun W => lslot10_any (n : Int) Z iz g5 o5 c5 Hin.out HZl.out T9.cap W
            unfold tabV at HL
            have hC9 : Cells w9 [(⟨wo.heap.size, 0, none⟩, .int .u32 (s.h : Int)), (⟨w5.heap.size, 0, none⟩, .int .i64 (n : Int)), (⟨w5.heap.size, 1, none⟩, .slice (some ⟨g5, o5, none⟩) Z.length c5)] := ⟨X9.cell 0, N9.cell 0, N9.cell 1, trivial⟩
            have q16 := slotB_len Hin.out
            have Hq16 := Lib.hid q16
            clear NW XW AW TW Mw hZall x0 k0 k1 q16
            go_wp2
            refine wp_region_seq 9 1 [(true, [true, true, true, true, true, true]), (false, [false, false, false, false, false, false, true]), (false, [false, false, false, false, false, false, false, true]), (true, [false, false, false, false, false, false, false, false, true])] _ _ (Keeps w9 [(⟨wo.heap.size, 0, none⟩, .int .u32 (s.h : Int)), (⟨w5.heap.size, 0, none⟩, .int .i64 (n : Int)), (⟨w5.heap.size, 1, none⟩, .slice (some ⟨g5, o5, none⟩) Z.length c5)]) (by kernel_rfl) (List.take_append_drop 9 _).symm rfl rfl (by kernel_rfl) (by kernel_rfl) (Keeps.start hC9) (fun Y Q4 F4 hY hF => ?_)
            simp only [phased, List.flatMap_cons, List.flatMap_nil, List.take_succ_cons, List.take_zero, List.drop_succ_cons, List.drop_zero, sel_true, sel_false, sel_nil, List.map_cons, List.map_nil, List.cons_append, List.nil_append, List.append_nil]
            repeat
              apply wpSeq_read (by first | rfl | (rw [hY]; rfl))
              · intro w2 hS2
                (try simp only [Keeps, Cells] at hS2)
                go_simp
                with_reducible rfl
              simp only [Act.put, List.setIfInBounds_toArray, List.set_cons_zero, List.set_cons_succ]
            apply wpSeq_call (by first | rfl | (rw [hY]; rfl))
            · go_simp
              with_reducible exact ⟨rfl, rfl⟩
            refine (HL.out _).mono ?_
            rintro e w10 ⟨c10, rfl, _, hb10⟩
            have hk10 := (Keeps.start hC9).step hb10
            refine ⟨_, rfl, hk10, ?_⟩
            simp only [Act.put, List.setIfInBounds_toArray, List.set_cons_zero, List.set_cons_succ]
            have q1 := (T9.step hk10.1).slotRd HZ0.out iz
            apply wpSeq_call (by first | rfl | (rw [hY]; rfl))
            · go_simp
              with_reducible exact ⟨rfl, rfl⟩
            refine (Try.bytes_Clone_at ⟨g5, o5 + 16 * iz, none⟩ 16 c10 (S10.slotB Z iz) w10 Hq16.out (by omega) (fun i hi => q1.atAdd i (by rw [Hq16.out]; exact hi))).mono ?_
            rintro e w11 ⟨v', rfl, hown11, _, hb11⟩
            obtain ⟨av, cv, rfl, _, _⟩ := owns_slice hown11
            have q3 : Rd w11 av (Bts (S10.slotB Z iz)) := Rd.of_owns hown11
            have hk11 := hk10.step hb11
            refine ⟨_, rfl, hk11, ?_⟩
            simp only [Act.put, List.setIfInBounds_toArray, List.set_cons_zero, List.set_cons_succ]
            repeat
              apply wpSeq_read (by first | rfl | (rw [hY]; rfl))
              · intro w2 hS2
                (try simp only [Keeps, Cells] at hS2)
                go_simp
                with_reducible rfl
              simp only [Act.put, List.setIfInBounds_toArray, List.set_cons_zero, List.set_cons_succ]
            refine wpSeq_done (hF.out _ _ (fun K hK => ?_))
            clear hF hY
            have hB11 := below_trans hB9 hk11.1
            have A11 := A9.step hk11.1
            have N11 := N9.step hk11.1
            have T11 := T9.step hk11.1
            have M11 : w11.ownsMap Try.prog 43 KR (S + 1) nn D' := M9.kept (Below.grownBy hk11.1 none) (by simp)
            have Z11 := fun kl v hv => (Z9 kl v hv).keptBy (Below.grownBy hk11.1 none) (fun r e => by cases e)
            clear hown11 hk10 hk11 q1 N9 A9 T9 M9 Z9 X9
            have hkey := Maps.keyOf_int_mk Try.underlying43 (WalkArith.wf_u32 (n := (s.h : Int)) (by have := Hso.out.1; omega))
            have hK12 : Kept n Z w11 (Lit.int .u32 (s.h : Int)) (mkKV ⟨(iz : Int), av, 16, cv⟩) := ⟨s.h, iz, av, cv, rfl, Hso.out.1, rfl, Hfnd.out, q3⟩
            obtain ⟨w12, hrun12, M12, hg12⟩ := M11.update lawU32 Try.underlying79 (by unfold maxLen; omega) hkey (KR_mk ⟨(iz : Int), av, 16, cv⟩)
            unfold mkKV at hrun12
            simp only at hrun12
            have HK12 := Lib.hid hK12
            clear hK12
            go_wp2_with fail
            refine OnlyK.mk (hK.out _ _ ?_)
            clear hK
            have hmr11 : ∀ r, some (S + 1) = some r → ∃ o : Obj, w11.heap[r]? = some o ∧ o.isCells = false := fun r e => by
              cases e
              obtain ⟨es, ck, hh, _⟩ := M11
              exact ⟨_, hh, rfl⟩
            have hD' : IsMap D' := by obtain ⟨es, ck, _, _, _, e⟩ := M11; exact ⟨_, by first | exact e | exact e.symm⟩
            have Q12 := keptPut Z11 HK12.out hD' hg12 hmr11
            have A12 := A11.kept hg12 hmr11
            have N12 := N11.kept hg12 hmr11
            have T12 := T11.keptBy hg12 hmr11
            have hB12 := hB11.trans (grownBy_below hg12 (by omega) hB11.size)
            have r0 := A12.cell 0
            have r1 := A12.cell 1
            have f0 := A12.free 0
            have f1 := A12.free 1
            have n0 := N12.cell 0
            have n1 := N12.cell 1
            simp only [List.getElem?_cons_zero, List.getElem?_cons_succ] at r0 r1 n0 n1
            have A13 := A12.set 0 (.int .i64 (n : Int))
            simp only [List.set_cons_zero] at A13
            have A14 := A13.set 1 (.slice (some ⟨g5, o5, none⟩) Z.length c5)
            simp only [List.set_cons_zero, List.set_cons_succ] at A14
            have T14 := (T12.other hF5 S 0 (.int .i64 (n : Int)) (by simp; omega)).other hF5 S 1 (.slice (some ⟨g5, o5, none⟩) Z.length c5) (by simp; omega)
            have M14 := (M12.kept (grownBy_setCellI w12 S 0 (.int .i64 (n : Int))) (by simp)).kept (grownBy_setCellI _ S 1 (.slice (some ⟨g5, o5, none⟩) Z.length c5)) (by simp)
            have Q14 := fun kl v hv => ((Q12 kl v hv).setS A12 0 (.int .i64 (n : Int))).setS A13 1 (.slice (some ⟨g5, o5, none⟩) Z.length c5)
            have hB14 := (hB12.setCell (p := ⟨S, 0, none⟩) (by simp; omega) (.int .i64 (n : Int))).setCell (p := ⟨S, 1, none⟩) (by simp; omega) (.slice (some ⟨g5, o5, none⟩) Z.length c5)
            have HQ14 := Lib.hid Q14
            have HM14 := Lib.hid M14
            clear A11 N11 T11 M11 Z11 A12 N12 T12 A13 M12 hB12 Q12 Q14 M14 HK12 hrun12 hkey
            go_wp2
            go_roundw
            case rel => exact ⟨k + 1, by omega, by go_num, ⟨Z, _, _, Hs1.out.symm, A14, T14, _, nn + 1, by omega, HM14.out, HQ14.out⟩, hB14⟩
            case measure => simp [intOf]; omega
          · intro x c kl y1 y2 w8 cnt1 hkey hlx hKR hat hrg1 hlt1 hg1 hs1 hen
            have hy := (KR_inv hKR).2
            simp only [Prod.mk.injEq] at hy
            obtain ⟨rfl, rfl⟩ := hy
            have hKp := hRem kl (mkKV c) hat
            rw [hlx, if_pos rfl] at hKp
            obtain ⟨h', i', a', c', rfl, hh', hmk, hf, hrdk⟩ := hKp
            obtain rfl := mkKV_inj hmk
            obtain ⟨x', ex, ekl, _⟩ := Maps.keyOf_int_inv Try.underlying43 hkey
            simp at ex ekl
            subst ex
            obtain rfl : x = (h' : Int) := ekl.symm
            have hgw1 := hgw.andThen hg1 (fun j hj => by cases hj; exact Or.inl (Nat.le_refl _))
            have N8 := N6.kept hgw1 hmr
            have X8 := XB6.kept hgw1 hmr
            have T8 := T6.keptBy hgw1 hmr
            have hB8 : Below w.heap.size w w8 := hB6.trans (grownBy_below hgw1 (by omega) hB6.size)
            have hrm8 : ∀ r, some w6.heap.size = some r → ∃ o : Obj, wr.heap[r]? = some o ∧ o.isCells = false := fun r e => by
              cases e
              obtain ⟨es, ck, si, se, c0, _, _, _, _, hit, _⟩ := hrg
              exact ⟨_, hit, rfl⟩
            have hRem8 := hRem.keptBy hg1 hrm8
            have hrdk8 := hrdk.keptBy hg1 hrm8
            unfold mkKV at hen
            simp only at hen
            have hlf : ∀ z, z ≠ Lit.int .u32 (h' : Int) → (left z && !z.sameKey (Lit.int .u32 (h' : Int))) = left z := fun z hz => by rw [Maps.sameKey_ne hz]; simp
            have hlf2 : ∀ z, z ≠ Lit.int .u32 (h' : Int) → ((left z && !z.sameKey (Lit.int .u32 (h' : Int))) && !z.sameKey (Lit.int .u32 (h' : Int))) = left z := fun z hz => by rw [Maps.sameKey_ne hz]; simp
            obtain ⟨w9, hw9⟩ : ∃ w9, w8.alloc (Obj.cells #[.int .i64 (i' : Int), .slice a' 16 c'] 81) = w9 := ⟨_, rfl⟩
            have hb9 : Below w8.heap.size w8 w9 := by rw [← hw9]; exact (Below.refl _ w8).alloc (Nat.le_refl _) _
            have K9 : Blk w9 wr.heap.size [.int .i64 (i' : Int), .slice a' 16 c'] 81 := by rw [← hw9, ← hs1]; exact Blk.new w8 _ _
            have hrg9 := by have := hrg1.alloc (Obj.cells #[.int .i64 (i' : Int), .slice a' 16 c'] 81); rw [hw9] at this; exact this
            have N9 := N8.step hb9
            have X9 := X8.step hb9
            have T9 := T8.step hb9
            have hB9 := below_trans hB8 hb9
            have hRem9 := hRem8.keptBy (Below.grownBy hb9 none) (fun r e => by cases e)
            have hrdk9 := hrdk8.step hb9
            have hgw9 := hgw1.andThen (Below.grownBy hb9 none) (fun j hj => by cases hj)
            have x0 := X9.cell 0
            simp only [List.getElem?_cons_zero] at x0
            clear N8 X8 T8 hB8 hRem8 hrdk8 hgw1 NW XW AW TW hBW hRem hrdk hmk
            by_cases hsame : h' = s.h
            · have es : ((h' : Int) == (s.h : Int)) = true := by simp; omega
              clear hsame
              go_wp2_with (at_delete; refine wpList_delete_ranges _ rfl _ _ 79 43 rfl 81 lawU32 Try.underlying79 KR (S + 1) w6.heap.size nn D' _ cnt1 rfl hrg9 _ (Lit.int .u32 (h' : Int)) rfl hkey ?_; intro w10 cnt2 hrg2 hle hturn; go_frame)
              have hmr9 : ∀ r, some (S + 1) = some r → ∃ o : Obj, w9.heap[r]? = some o ∧ o.isCells = false := fun r e => by
                cases e
                obtain ⟨es, ck, hh, _⟩ := hrg9.owns
                exact ⟨_, hh, rfl⟩
              go_roundw
              case rel => exact ⟨_, cnt2, _, hrg2, (hRem9.keptBy hturn.grown hmr9).del _ hlf2, hgw9.andThen hturn.grown (fun j hj => by cases hj; exact Or.inr rfl)⟩
              case measure => rw [hrg2.left_eq, hrg.left_eq]; omega
            · have es : ((h' : Int) == (s.h : Int)) = false := by simp; omega
              have HSh := Lib.hid fun W => share10_any n h' s.h (by omega) hh' Hso.out.1 W
              obtain ⟨sh, hsh⟩ : ∃ sh, S10.share n h' s.h = sh := ⟨_, rfl⟩
              rw [hsh] at HSh
              clear hsame
              go_wp2_with fail
              refine (HSh.out _).mono ?_
              rintro e w10 ⟨rfl, hb10⟩
              have hrg10 := hrg9.kept (Below.grownBy hb10 none) (by simp) (by simp)
              have N10 := N9.step hb10
              have K10 := K9.step hb10
              have T10 := T9.step hb10
              have hB10 := below_trans hB9 hb10
              have hRem10 := hRem9.keptBy (Below.grownBy hb10 none) (fun r e => by cases e)
              have hrdk10 := hrdk9.step hb10
              have hgw10 := hgw9.andThen (Below.grownBy hb10 none) (fun j hj => by cases hj)
              have k0 := N10.cell 0
              have k1 := N10.cell 1
              simp only [List.getElem?_cons_zero, List.getElem?_cons_succ] at k0 k1
              clear N9 K9 X9 T9 hB9 hRem9 hrdk9 hgw9 x0
              cases sh with
              | true =>
                go_wp2_with (at_delete; refine wpList_delete_ranges _ rfl _ _ 79 43 rfl 81 lawU32 Try.underlying79 KR (S + 1) w6.heap.size nn D' _ cnt1 rfl hrg10 _ (Lit.int .u32 (h' : Int)) rfl hkey ?_; intro w11 cnt2 hrg2 hle hturn; go_frame)
                have hmr10 : ∀ r, some (S + 1) = some r → ∃ o : Obj, w10.heap[r]? = some o ∧ o.isCells = false := fun r e => by
                  cases e
                  obtain ⟨es, ck, hh, _⟩ := hrg10.owns
                  exact ⟨_, hh, rfl⟩
                go_roundw
                case rel => exact ⟨_, cnt2, _, hrg2, (hRem10.keptBy hturn.grown hmr10).del _ hlf2, hgw10.andThen hturn.grown (fun j hj => by cases hj; exact Or.inr rfl)⟩
                case measure => rw [hrg2.left_eq, hrg.left_eq]; omega
              | false =>
                obtain ⟨hfz, hsz⟩ := Hoth.out h' i' hsh hf
                have hFi := fun W hW => Find10_any (n : Int) Z h' hh' a5 c5 W hW
                have e1 : S10.findN (n : Int) Z h' = i' := by unfold S10.findN; rw [if_pos Hgz.out.check, Int.toNat_natCast, hfz]; rfl
                have e2 : S10.findB (n : Int) Z h' = true := by unfold S10.findB; rw [if_pos Hgz.out.check, Int.toNat_natCast, hfz]; rfl
                rw [e1, e2] at hFi
                have HFi := Lib.hid hFi
                have hil' := S10.mem_places (S10.find_some hfz).1
                have hzl := Hgz.out.len
                have hps := pow_small Hgz.out.le
                have hin : 16 * i' + 16 ≤ Z.length := by omega
                have hZl : Z.length ≤ 1048576 := by omega
                have hZ0 : Z ≠ [] := by intro e; rw [e] at hin; simp at hin
                have hKz : Kept n Z w10 (Lit.int .u32 (h' : Int)) (mkKV ⟨(i' : Int), a', 16, c'⟩) := ⟨h', i', a', c', rfl, hh', rfl, hfz, by rw [hsz]; exact hrdk10⟩
                have hRk := Lib.hid (hRem10.keep (left' := fun z => left z && !z.sameKey (Lit.int .u32 (h' : Int))) _ hlf (by simp [Lit.sameKey]) hat hKz)
                have Hsz := Lib.hid hsz
                have Hin := Lib.hid hin
                have HZl := Lib.hid hZl
                have HZ0 := Lib.hid hZ0
                have Hb16 := Lib.hid (show (S10.slotB X i').length = 16 by rw [← hsz]; exact slotB_len hin)
                unfold tabV at HFi
                clear hFi e1 e2 hil' hzl hps hin hZl hZ0 hKz hfz hsz
                go_wp2_with fail
                refine (HFi.out _ T10).mono ?_
                rintro e w11 ⟨rfl, hb11⟩
                have N11 := N10.step hb11
                have K11 := K10.step hb11
                have T11 := T10.step hb11
                have hrdk11 := hrdk10.step hb11
                obtain ⟨g5, o5, rfl, _⟩ := T11.rd (fun e => HZ0.out (by have h1 := congrArg List.length e; rw [Bts_length] at h1; exact List.length_eq_zero_iff.1 (by simpa using h1)))
                have hC11 : Cells w11 [(⟨wr.heap.size, 0, none⟩, .int .i64 (i' : Int)), (⟨wr.heap.size, 1, none⟩, .slice a' 16 c'), (⟨w5.heap.size, 0, none⟩, .int .i64 (n : Int)), (⟨w5.heap.size, 1, none⟩, .slice (some ⟨g5, o5, none⟩) Z.length c5)] := ⟨K11.cell 0, K11.cell 1, N11.cell 0, N11.cell 1, trivial⟩
                have HL := Lib.hid fun W => lslot10_any (n : Int) Z i' g5 o5 c5 Hin.out HZl.out T11.cap W
                unfold tabV at HL
                have ei : ((i' : Int) != (i' : Int)) = false := by simp
                clear N10 K10 T10 hrdk10 k0 k1
                go_wp2
                refine wp_region_seq 17 0 [(true, [true, true, true, true, true, true, true, true, true, true, true, false, true, true]), (false, [false, false, false, false, false, false, false, false, false, false, false, true]), (false, [false, false, false, false, false, false, false, false, false, false, false, false, false, false, true]), (true, [false, false, false, false, false, false, false, false, false, false, false, false, false, false, false, true, true])] _ _ (Keeps w11 [(⟨wr.heap.size, 0, none⟩, .int .i64 (i' : Int)), (⟨wr.heap.size, 1, none⟩, .slice a' 16 c'), (⟨w5.heap.size, 0, none⟩, .int .i64 (n : Int)), (⟨w5.heap.size, 1, none⟩, .slice (some ⟨g5, o5, none⟩) Z.length c5)]) (by kernel_rfl) (List.take_append_drop 17 _).symm rfl rfl (by kernel_rfl) (by kernel_rfl) (Keeps.start hC11) (fun Y Q4 F4 hY hF => ?_)
                simp only [phased, List.flatMap_cons, List.flatMap_nil, List.take_succ_cons, List.take_zero, List.drop_succ_cons, List.drop_zero, sel_true, sel_false, sel_nil, List.map_cons, List.map_nil, List.cons_append, List.nil_append, List.append_nil]
                repeat
                  apply wpSeq_read (by first | rfl | (rw [hY]; rfl))
                  · intro w2 hS2
                    (try simp only [Keeps, Cells] at hS2)
                    go_simp
                    with_reducible rfl
                  simp only [Act.put, List.setIfInBounds_toArray, List.set_cons_zero, List.set_cons_succ]
                apply wpSeq_call (by first | rfl | (rw [hY]; rfl))
                · go_simp
                  with_reducible exact ⟨rfl, rfl⟩
                refine (HL.out _).mono ?_
                rintro e w12 ⟨c12, rfl, _, hb12⟩
                have hk12 := (Keeps.start hC11).step hb12
                refine ⟨_, rfl, hk12, ?_⟩
                simp only [Act.put, List.setIfInBounds_toArray, List.set_cons_zero, List.set_cons_succ]
                have q1 := conv10n (slotB_len Hin.out) (some ⟨g5, o5 + 16 * i', none⟩) c12 w12 ((T11.step hk12.1).slotRd HZ0.out i')
                have q2 := conv10n Hb16.out a' c' w12 (hrdk11.step hk12.1)
                rw [Hsz.out] at *
                apply wpSeq_call (by first | rfl | (rw [hY]; rfl))
                · go_simp
                  with_reducible exact ⟨rfl, rfl⟩
                refine (Try.bytes_Equal _ _ _ _ _ q1 q2).mono ?_
                rintro e w13 ⟨rfl, rfl⟩
                rw [beq_self_eq_true]
                refine ⟨_, rfl, hk12, ?_⟩
                simp only [Act.put, List.setIfInBounds_toArray, List.set_cons_zero, List.set_cons_succ]
                repeat
                  apply wpSeq_read (by first | rfl | (rw [hY]; rfl))
                  · intro w2 hS2
                    (try simp only [Keeps, Cells] at hS2)
                    go_simp
                    with_reducible rfl
                  simp only [Act.put, List.setIfInBounds_toArray, List.set_cons_zero, List.set_cons_succ]
                refine wpSeq_done (hF.out _ _ (fun K hK => ?_))
                clear hF hY
                refine OnlyK.mk (hK.out _ _ ?_)
                clear hK
                have hbw := below_trans hb11 hk12.1
                have hrg12 := hrg10.kept (Below.grownBy hbw none) (by simp) (by simp)
                have hR12 := hRk.out.keptBy (Below.grownBy hbw none) (fun r e => by cases e)
                have hgw12 := hgw10.andThen (Below.grownBy hbw none) (fun j hj => by cases hj)
                clear q1 q2 hk12
                go_wp2
                go_roundw
                case rel => exact ⟨_, cnt1, _, hrg12, hR12, hgw12⟩
                case measure => rw [hrg12.left_eq, hrg.left_eq]; exact hlt1
      · obtain rfl : k = l.length := by omega
        go_wp2_with fail
        refine (HA.out _).mono ?_
        rintro e w3 ⟨rfl, hb3⟩
        have hB3 := below_trans hB hb3
        go_wp2
        go_returns
        exact ⟨rfl, hB3⟩
end Go.Proofs.Ytgbjckjfjoiilaa
