/- A part of the proof that ends in L14c (T14, S14, S14b, U14, Aw14). No condition. -/
import Derived.Below
import Derived.BigQuiet
import Derived.Deep.Draws
import Derived.Deep.Light
import Derived.Deep.MidRow
import Derived.Deep.QuietTactic
import Derived.Deep.Slices
import Derived.Handy
import Derived.Laws.AppendOwn
import Derived.Laws.AppendOwnNone
import Derived.Laws.CopyOwn
import Derived.Laws.MakeOwn
import Derived.Laws.OwnMore
import Derived.Laws.Tables
import Derived.Lib.Hide
import Derived.Lib.MinMax
import Derived.LoadGo2
import Derived.LoopIn
import Derived.LoopNIn
import Derived.Maps.AppendAt
import Derived.Orders
import Derived.OrdersHeld
import Derived.OwnWalkIn
import Derived.RangeFuncBound
import Derived.RangeFuncCalls
import Derived.RangeFuncLeaves
import Derived.RangeFuncNested
import Derived.RangeFuncWrites
import Derived.Shelf.Abstract
import Derived.Shelf.RegionOpen
import Derived.Sort.BigQuietIn
import Derived.Sort.QuietIn
import Derived.StillTail
import Derived.Tactics
import Derived.TacticsInMore
import Derived.Test.YtieeogndnhighaaGreatRows
import Derived.Test.YtieeogndnhighaaGreatShelf
import Derived.WalkKit
import Derived.WalkLawsBesides
import Derived.WalkSpells
import Derived.Test.YtieeogndnhighaaGreatZL14cbc
set_option linter.unusedSimpArgs false
set_option linter.unusedVariables false
set_option linter.unusedSectionVars false
namespace Go.Proofs.YtieeogndnhighaaGreat
open Go.RowKit
theorem S14.checkNet_zero {N : S14.N} (h : S14.checkNet N = 0) : S14.check N.comps = 0 ∧ N.parts.length = N.comps.length ∧ N.ctxs.length = 16 ∧ 1 ≤ N.part ∧ N.part ≤ 255 ∧ S14.allRight N := by
  unfold S14.checkNet at h
  split at h
  · rename_i hc; exact absurd h hc
  · rename_i hc
    split at h
    · cases h
    · rename_i hl
      split at h
      · cases h
      · rename_i hp
        split at h
        · rename_i hr
          have := S14.has_iff.1 (by simpa using hp)
          exact ⟨by simpa using hc, by omega, by omega, this.1, this.2, hr⟩
        · cases h
theorem S14.kinds_of {l : List S14.C} (h : S14.check l = 0) : ∀ c ∈ l, 0 ≤ c.kind ∧ c.kind ≤ 6 := fun c hc => by
  obtain ⟨k, hk⟩ := List.getElem?_of_mem hc
  have := (S14.ok_is ((S14.check_zero h).2.2 k c hk)).kind
  omega
set_option maxRecDepth 100000 in
set_option maxHeartbeats 2000000 in
theorem outputsP14_good (N : S14.N) (L : NLay) (O : Nat → List Int → Int) (w : World) (hN : NIs N L w) (HR : RightHolds N L w) (h0 : S14.checkNet N = 0) (HK : OutHolds N L w O) :
    Calls Tryz.prog 20 #[NV N L] w fun e w' => ∃ a cap, e = .returned (.tuple #[.slice a N.comps.length cap, .int .i64 0]) ∧ Rd w' a (Ints (S14.outs O N.comps.length)) ∧ (∀ g o, a = some ⟨g, o, none⟩ → w.heap.size ≤ g) ∧ N.comps.length ≤ cap ∧ Below w.heap.size w w' := by
  obtain ⟨hck, hpl, hxl, _, _, _⟩ := S14.checkNet_zero h0
  have hl := (S14.check_zero hck).2.1
  have hl1 : N.comps.length ≤ 4611686018427387904 := by omega
  obtain ⟨W1, hW1⟩ : ∃ W1, w.alloc (.cells (NVals N L).toArray 26) = W1 := ⟨_, rfl⟩
  have k1 : Blk W1 w.heap.size (NVals N L) 26 := by rw [← hW1]; exact Blk.new w _ _
  have B1 : Below w.heap.size w W1 := by rw [← hW1]; exact (Below.refl _ _).alloc (Nat.le_refl _) _
  have HC := Lib.hid (checkNet14_any N L W1 (hN.step B1) hl1 (fun k c p y h1 h2 h3 h4 W hW => HR k c p y h1 h2 h3 h4 W (below_trans B1 hW)))
  rw [h0] at HC
  have HO := Lib.hid fun (W : World) (hW : Below w.heap.size w W) => outputs14_any N L O W (hN.step hW) hl (S14.kinds_of hck) (fun k c h bef a W' h1 => HK k c h bef a W' (below_trans hW h1))
  clear HR h0 hpl hxl hck hl1 HK
  unfold NV NVals at HC HO ⊢
  unfold NVals at k1 hW1
  obtain ⟨nc, hnc⟩ : ∃ n, N.comps.length = n := ⟨_, rfl⟩
  obtain ⟨np, hnp⟩ : ∃ n, N.parts.length = n := ⟨_, rfl⟩
  obtain ⟨nx, hnx⟩ : ∃ n, N.ctxs.length = n := ⟨_, rfl⟩
  obtain ⟨pt, hpt⟩ : ∃ n, N.part = n := ⟨_, rfl⟩
  rw [hnc, hnp, hnx, hpt] at HC HO k1 hW1 
  rw [hnc, hnp, hnx, hpt]
  clear hnp hnx hpt hN hl hnc
  go_enter Tryz.func20, Tryz.ntmps20
  go_wp2_with (first
    | (rw [hW1])
    | (refine wpList_loadB 26 (.tmp 1) (by rfl) (by rfl) w.heap.size (by rfl) [.slice L.a1 nc L.c1, .slice L.a2 np L.c2, .slice L.a3 nx L.c3, .int .i64 pt] 26 k1 _ Tryz.underlying26 rfl info_N ?_))
  refine HC.out.mono ?_
  rintro e w2 ⟨rfl, hb2⟩
  have k2 := k1.step hb2
  have B2 := below_trans B1 hb2
  clear k1
  go_wp2_with (first
    | (refine wpList_loadB 26 (.tmp 1) (by rfl) (by rfl) w.heap.size (by rfl) [.slice L.a1 nc L.c1, .slice L.a2 np L.c2, .slice L.a3 nx L.c3, .int .i64 pt] 26 k2 _ Tryz.underlying26 rfl info_N ?_))
  refine (HO.out _ B2).mono ?_
  rintro e w3 ⟨a, cap, rfl, hrd, hfar, hcap, hb3⟩
  have B3 := below_trans B2 hb3
  have hz := B2.size
  have Hrd := Lib.hid hrd
  have Hfar := Lib.hid hfar
  clear hrd hfar
  go_wp2_with fail
  go_returns
  exact ⟨a, cap, rfl, Hrd.out, fun g o e => Nat.le_trans hz (Hfar.out g o e), hcap, B3⟩
set_option maxRecDepth 100000 in
set_option maxHeartbeats 2000000 in
theorem predict14_good (N : S14.N) (L : NLay) (O : Nat → List Int → Int) (w : World) (hN : NIs N L w) (HR : RightHolds N L w) (h0 : S14.checkNet N = 0) (HK : OutHolds N L w O) :
    Calls Tryz.prog 22 #[NV N L] w fun e w' => e = .returned (.tuple #[.int .i64 (S06.squash ((S14.outs O N.comps.length).getD (N.comps.length - 1) 0)), .int .i64 0]) ∧ Below w.heap.size w w' := by
  obtain ⟨hck, _⟩ := S14.checkNet_zero h0
  obtain ⟨hl0, hl, _⟩ := S14.check_zero hck
  obtain ⟨W1, hW1⟩ : ∃ W1, w.alloc (.cells (NVals N L).toArray 26) = W1 := ⟨_, rfl⟩
  have k1 : Blk W1 w.heap.size (NVals N L) 26 := by rw [← hW1]; exact Blk.new w _ _
  have B1 : Below w.heap.size w W1 := by rw [← hW1]; exact (Below.refl _ _).alloc (Nat.le_refl _) _
  have HC := Lib.hid (outputsP14_good N L O W1 (hN.step B1) (fun k c p y h1 h2 h3 h4 W hW => HR k c p y h1 h2 h3 h4 W (below_trans B1 hW)) h0 (fun k c h bef a W' h1 => HK k c h bef a W' (below_trans B1 h1)))
  have HS := Lib.hid fun x W => squash06_any x W
  clear HR h0 hck HK
  unfold NV NVals at HC ⊢
  unfold NVals at k1 hW1
  have hlen := S14.outs_length O N.comps.length
  obtain ⟨X, hX⟩ : ∃ X, S14.outs O N.comps.length = X := ⟨_, rfl⟩
  obtain ⟨nc, hnc⟩ : ∃ n, N.comps.length = n := ⟨_, rfl⟩
  obtain ⟨np, hnp⟩ : ∃ n, N.parts.length = n := ⟨_, rfl⟩
  obtain ⟨nx, hnx⟩ : ∃ n, N.ctxs.length = n := ⟨_, rfl⟩
  obtain ⟨pt, hpt⟩ : ∃ n, N.part = n := ⟨_, rfl⟩
  rw [hX] at hlen HC ⊢
  rw [hnc] at hlen hl0 hl
  rw [hnc, hnp, hnx, hpt] at HC k1 hW1
  rw [hnc, hnp, hnx, hpt]
  clear hnp hnx hpt hN hnc hX
  go_enter Tryz.func22, Tryz.ntmps22
  go_wp2_with (first
    | (rw [hW1])
    | (refine wpList_loadB 26 (.tmp 1) (by rfl) (by rfl) w.heap.size (by rfl) [.slice L.a1 nc L.c1, .slice L.a2 np L.c2, .slice L.a3 nx L.c3, .int .i64 pt] 26 k1 _ Tryz.underlying26 rfl info_N ?_))
  refine HC.out.mono ?_
  rintro e w2 ⟨a, cap, rfl, hrd, _, hcap, hb2⟩
  obtain ⟨g, o, rfl, hcs⟩ := hrd.at (i := nc - 1) (by unfold Ints; rw [List.length_map]; omega)
  have hc0 : w2.cell? ⟨g, o + (nc - 1), none⟩ = some (.int .i64 (X.getD (nc - 1) 0)) := by
    rw [hcs (nc - 1) (by unfold Ints; rw [List.length_map]; omega), List.getD_eq_getElem?_getD, List.getElem?_eq_getElem (by omega)]
    simp [Ints]
  have hncz : (1 : Int) ≤ (nc : Int) := by omega
  have e1 : ((nc - 1 : Nat) : Int) = (nc : Int) - 1 := by omega
  have hc1 : w2.cell? ⟨g, o + ((nc : Int) - 1).toNat * 1, none⟩ = some (.int .i64 (X.getD (nc - 1) 0)) := by
    rw [show ((nc : Int) - 1).toNat * 1 = nc - 1 by omega]; exact hc0
  have B2 := below_trans B1 hb2
  clear hrd hcs k1 e1
  go_wp2_with fail
  refine (HS.out _ _).mono ?_
  rintro e w3 ⟨rfl, hb3⟩
  go_wp2_with fail
  go_returns
  exact ⟨rfl, below_trans B2 hb3⟩
end Go.Proofs.YtieeogndnhighaaGreat
set_option linter.unusedSimpArgs false
set_option linter.unusedVariables false
set_option linter.unusedSectionVars false
namespace Go.Proofs.YtieeogndnhighaaGreat
open Go.RowKit
def FreshF (c : S14.C) : FuncId :=
  if c.kind = 0 then 171 else if c.kind = 1 then 184 else if c.kind = 2 then 213 else if c.kind = 3 then 229 else if c.kind = 4 then 256 else if c.kind = 5 then 263 else 284
/-- What parts components begin with, with a proof of it. -/
def FreshHolds (l : List S14.C) (F : S14.C → S14.P) : Prop :=
  ∀ (k : Nat) (c : S14.C), l[k]? = some c → S14.ok c (k : Int) = true → ∀ W, Calls Tryz.prog (FreshF c) #[CV c] W fun e w' => ∃ y, e = .returned (PV (F c) y) ∧ PRob 0 W.heap.size (F c) y w' ∧ Below W.heap.size W w'
/-- The blocks that change while parts are made: the result, the network's, and the list of parts. -/
def XNew (R NB : Nat) (v : Value) (k : Nat) : Prop := k = R ∨ k = NB ∨ v.ownBlock = some k
/-- What opening does, with a proof of it; X: the blocks that the caller changes later. -/
def OpenHolds (w : World) (N N' : S14.N) : Prop := ∀ (L : NLay) (W : World) (X : Nat → Prop), Below w.heap.size w W → (∀ k, X k → k < W.heap.size) → (∀ W2, KepX X W W2 → NIs N L W2) → OwnP W w.heap.size L.a2 L.c2 N.parts L.ys →
  (∀ (j : Nat) (p : S14.P) (y : Lay), N.parts[j]? = some p → L.ys[j]? = some y → PRobX (fun k => X k ∨ (Value.slice L.a2 N.parts.length L.c2).ownBlock = some k) p y W) →
  Calls Tryz.prog 44 #[NV N L] W fun e w' => ∃ L', e = .returned (NV N' L') ∧ (∀ W2, KepX X w' W2 → NIs N' L' W2) ∧ KepX (fun k => (Value.slice L.a2 N.parts.length L.c2).ownBlock = some k) W w'
set_option maxRecDepth 100000 in
theorem aheadFresh_constant (v : Value) (w : World) : (nilAhead 410 115 v "compactor/network.fresh").run Tryz.prog w = .ok (some false) w := by kernel_rfl
set_option maxRecDepth 100000 in
theorem methFresh_constant (v : Value) (w : World) : (method 410 115 v "compactor/network.fresh").run Tryz.prog w = .ok (171, v) w := by kernel_rfl
set_option maxRecDepth 100000 in
theorem aheadFresh_direct (v : Value) (w : World) : (nilAhead 410 116 v "compactor/network.fresh").run Tryz.prog w = .ok (some false) w := by kernel_rfl
set_option maxRecDepth 100000 in
theorem methFresh_direct (v : Value) (w : World) : (method 410 116 v "compactor/network.fresh").run Tryz.prog w = .ok (184, v) w := by kernel_rfl
set_option maxRecDepth 100000 in
theorem aheadFresh_history (v : Value) (w : World) : (nilAhead 410 117 v "compactor/network.fresh").run Tryz.prog w = .ok (some false) w := by kernel_rfl
set_option maxRecDepth 100000 in
theorem methFresh_history (v : Value) (w : World) : (method 410 117 v "compactor/network.fresh").run Tryz.prog w = .ok (213, v) w := by kernel_rfl
set_option maxRecDepth 100000 in
theorem aheadFresh_matched (v : Value) (w : World) : (nilAhead 410 118 v "compactor/network.fresh").run Tryz.prog w = .ok (some false) w := by kernel_rfl
set_option maxRecDepth 100000 in
theorem methFresh_matched (v : Value) (w : World) : (method 410 118 v "compactor/network.fresh").run Tryz.prog w = .ok (229, v) w := by kernel_rfl
set_option maxRecDepth 100000 in
theorem aheadFresh_average (v : Value) (w : World) : (nilAhead 410 119 v "compactor/network.fresh").run Tryz.prog w = .ok (some false) w := by kernel_rfl
set_option maxRecDepth 100000 in
theorem methFresh_average (v : Value) (w : World) : (method 410 119 v "compactor/network.fresh").run Tryz.prog w = .ok (256, v) w := by kernel_rfl
set_option maxRecDepth 100000 in
theorem aheadFresh_mixed (v : Value) (w : World) : (nilAhead 410 120 v "compactor/network.fresh").run Tryz.prog w = .ok (some false) w := by kernel_rfl
set_option maxRecDepth 100000 in
theorem methFresh_mixed (v : Value) (w : World) : (method 410 120 v "compactor/network.fresh").run Tryz.prog w = .ok (263, v) w := by kernel_rfl
set_option maxRecDepth 100000 in
theorem aheadFresh_refined (v : Value) (w : World) : (nilAhead 410 121 v "compactor/network.fresh").run Tryz.prog w = .ok (some false) w := by kernel_rfl
set_option maxRecDepth 100000 in
theorem methFresh_refined (v : Value) (w : World) : (method 410 121 v "compactor/network.fresh").run Tryz.prog w = .ok (284, v) w := by kernel_rfl
theorem take_snoc14 {α : Type} {l : List α} {k : Nat} {x : α} (h : l[k]? = some x) : l.take (k + 1) = l.take k ++ [x] := by
  rw [List.take_add_one, h]; rfl
theorem PVals_16 (p : S14.P) (y : Lay) : ∃ v0 v1 v2 v3 v4 v5 v6 v7 v8 v9 v10 v11 v12 v13 v14 v15, PVals p y = [v0, v1, v2, v3, v4, v5, v6, v7, v8, v9, v10, v11, v12, v13, v14, v15] := ⟨_, _, _, _, _, _, _, _, _, _, _, _, _, _, _, _, rfl⟩
theorem PCs_snoc (ps : List S14.P) : ∀ (ys : List Lay) (p : S14.P) (y : Lay), ys.length = ps.length → PCs (ps ++ [p]) (ys ++ [y]) = PCs ps ys ++ PVals p y := by
  induction ps with
  | nil =>
    intro ys p y h
    cases ys with
    | nil =>
      obtain ⟨V, hV⟩ : ∃ V, PVals p y = V := ⟨_, rfl⟩
      have e : PCs ([] ++ [p]) ([] ++ [y]) = PVals p y ++ [] := rfl
      have e2 : PCs ([] : List S14.P) [] = [] := rfl
      rw [e, e2, hV, List.append_nil, List.nil_append]
    | cons z ys => simp at h
  | cons q ps ih =>
    intro ys p y h
    cases ys with
    | nil => simp at h
    | cons z ys =>
      have e : PCs (q :: ps ++ [p]) (z :: ys ++ [y]) = PVals q z ++ PCs (ps ++ [p]) (ys ++ [y]) := rfl
      have e2 : PCs (q :: ps) (z :: ys) = PVals q z ++ PCs ps ys := rfl
      rw [e, e2, ih ys p y (by simpa using h), List.append_assoc]
theorem mk16 (w : World) : (Instr.makeSlice 24 (.int .i64 16) (.int .i64 16)).run Tryz.prog w = .ok (.slice (some ⟨w.heap.size, 0, none⟩) 16 16) (w.alloc (.cells (List.replicate 16 (.int .u32 0)).toArray 109)) := by
  obtain ⟨i, z', hi, hz, hsz, hby, hzs, hzc⟩ := elems_u32.open
  have hr := run_make (P := Tryz.prog) w 24 109 i z' elems_u32.1 hi hz .i64 .i64 16 16 (by omega) (by omega) (by rw [hby]; omega) (by omega)
  have hc : z'.cells = #[.int .u32 0] := by
    apply Array.ext'
    rw [hzc]
  have hm : madeCells z'.cells (16 * i.size) = (List.replicate 16 (Value.int .u32 0)).toArray := by
    rw [hsz, Nat.mul_one, hc]
    apply Array.ext'
    rw [toList_madeCells_one]
  have e16 : (16 : Int).toNat = 16 := rfl
  rw [e16, hm] at hr
  exact hr
set_option maxRecDepth 100000 in
set_option maxHeartbeats 2000000 in
theorem new14_good (l : List S14.C) (F : S14.C → S14.P) (N' : S14.N) (a : Option Addr) (cap : Nat) (w : World) (hrd : Rd w a (Cs14 l)) (hck : S14.check l = 0) (HF : FreshHolds l F) (HOp : OpenHolds w ⟨l, l.map F, List.replicate 16 0, 1⟩ N') :
    Calls Tryz.prog 15 #[.slice a l.length cap] w fun e w' => ∃ L, e = .returned (.tuple #[NV N' L, .int .i64 0]) ∧ NIs N' L w' ∧ Below w.heap.size w w' := by
  obtain ⟨hl1, hl16, hok⟩ := S14.check_zero hck
  obtain ⟨g, o, rfl, hcs⟩ := hrd (fun e => by have h := congrArg List.length e; rw [Cs14_length, List.length_nil] at h; omega)
  have HC := Lib.hid fun (W : World) (hW : Below w.heap.size w W) => (show Calls Tryz.prog 37 #[.slice (some ⟨g, o, none⟩) l.length cap] W fun e w' => e = .returned (.int .i64 0) ∧ Below W.heap.size W w' by
    have := check14_any l (some ⟨g, o, none⟩) cap W (by omega) (hrd.step hW); rwa [hck] at this)
  have HCl := Lib.hid fun (W : World) (hW : Below w.heap.size w W) => cloneComps14 (Cs14 l) l.length (by rw [Cs14_length, Nat.mul_comm]) (Cs14_one _) g o cap W hl1 (by omega) (hrd.step hW)
  have HO := Lib.hid fun (x : S14.C) W => (show Calls Tryz.prog 43 #[.agg #[.int .i64 x.kind, .int .i64 x.bits, .int .i64 x.limit, .int .i64 x.rate, .int .i64 x.first, .int .i64 x.second]] W _ from of14_any x W)
  have HFr := Lib.hid HF
  have Hok := Lib.hid hok
  have HOP := Lib.hid HOp
  have Hrd := Lib.hid hrd
  obtain ⟨nc, hnc⟩ : ∃ n, l.length = n := ⟨_, rfl⟩
  rw [hnc] at HC HCl hl1 hl16
  have Hnc := Lib.hid hnc
  rw [hnc]
  clear hrd hcs hck HF HOp hok hnc
  obtain ⟨W1, hW1⟩ : ∃ W1, w.alloc (.cells zN 26) = W1 := ⟨_, rfl⟩
  have k1 : Blk W1 w.heap.size [.slice none 0 0, .slice none 0 0, .slice none 0 0, .int .i64 0] 26 := by rw [← hW1]; exact Blk.new w _ _
  have B1 : Below w.heap.size w W1 := by rw [← hW1]; exact (Below.refl _ _).alloc (Nat.le_refl _) _
  unfold zN at hW1
  go_enter Tryz.func15, Tryz.ntmps15
  go_wp2_with (rw [hW1])
  refine (HC.out _ B1).mono ?_
  rintro e w2 ⟨rfl, hb2⟩
  have k2 := k1.step hb2
  have B2 := below_trans B1 hb2
  clear k1 B1 hb2 hW1
  go_wp2_with fail
  have hz2 := B2.size
  have kz2 := k2.lt
  obtain ⟨D, hD⟩ : ∃ D, w2.heap.size = D := ⟨_, rfl⟩
  rw [hD] at hz2 kz2
  refine wp_region_plan 5 1 (.read 0 (.two (.one 1 (.two (.one 2 (.read 3 (.one 4 .done))) (.one 4 (.one 2 (.read 3 .done))))) (.two (.one 2 (.two (.one 1 (.read 3 (.one 4 .done))) (.one 4 (.one 1 (.read 3 .done))))) (.one 4 (.two (.one 1 (.one 2 (.read 3 .done))) (.one 2 (.one 1 (.read 3 .done)))))))) _ _ o0P (fun K => Below w2.heap.size w2 K) (by kernel_rfl) (List.take_append_drop 5 _).symm (by kernel_rfl) (by kernel_rfl) (by kernel_rfl) (by kernel_rfl) ((Below.refl _ _).drew) (fun Y Q4 F4 hY hF => ?_)
  simp only [Plan.map, List.take_succ_cons, List.take_zero, List.drop_succ_cons, List.drop_zero, List.getD_cons_zero, List.getD_cons_succ]
  repeat
    apply wpPlan_read (by first | rfl | (rw [hY]; rfl))
    · intro w2 hS2
      (try simp only [Keeps, Cells] at hS2)
      (try simp only [HasC, Cells] at hS2)
      go_simp
      with_reducible rfl
    simp only [Act.put, List.setIfInBounds_toArray, List.set_cons_zero, List.set_cons_succ]
  have fin : ∀ (b1 : Option Addr) (c1 X NB : Nat) (w6 : World), Below w2.heap.size w2 w6 → w6.ownsRow D 54 6 (.slice b1 nc c1) nc (Cs14 l) → Blk w6 X (List.replicate 16 (.int .u32 0)) 109 → Blk w6 NB [.slice none 0 0, .slice none 0 0, .slice none 0 0, .int .i64 0] 26 → D ≤ X → D ≤ NB → X ≠ NB →
      F4 { tmps := #[Value.slice (some { block := g, off := o }) nc cap, undef,
          Value.pointer (some { block := w.heap.size, off := 0 }), Value.int IntKind.i64 0, Value.int IntKind.i64 0,
          Value.pointer (some { block := NB, off := 0 }), undef, undef, Value.slice (some { block := g, off := o }) nc cap, Value.int IntKind.i64 0,
          Value.int IntKind.i64 0, Value.bool false, undef, undef, Value.slice (some { block := g, off := o }) nc cap, .slice b1 nc c1, .slice (some ⟨X, 0, none⟩) 16 16, .agg #[.slice b1 nc c1, .slice none 0 0, .slice (some ⟨X, 0, none⟩) 16 16, .int .i64 1], undef, undef, undef, undef, undef, undef, undef, undef, undef, undef, undef, undef, undef, undef, undef, undef, undef], defers := [] } w6 := by
    intro b1 c1 X NB w6 hb6 hown kX kN h1 h2 h3
    refine hF.out _ _ (fun K hK => ?_)
    clear hF hY HC HCl
    refine wpList_storeB 26 (.tmp 5) (.tmp 17) (by rfl) (by rfl) NB (by rfl) [.slice b1 nc c1, .slice none 0 0, .slice (some ⟨X, 0, none⟩) 16 16, .int .i64 1] (by rfl) _ 26 kN info_N rfl (by simp [Value.oneCell']) ?_
    intro wL EL gL sL
    go_wp2_with fail
    refine OnlyK.mk (hK.out _ _ ?_)
    clear hK
    have hXn : X ≠ NB := h3
    have kXL : Blk wL X (List.replicate 16 (.int .u32 0)) 109 := kX.keptRow gL (by simpa using h3)
    have hownN := own_apart14 hown kN (by decide)
    have B6 := below_trans B2 hb6
    have BL : Below w.heap.size w wL := B6.trans (rowBelow gL (by omega) B6.size)
    obtain ⟨gC, hgC, hgD, hrC, hCN, hCc⟩ : ∃ gC, b1 = some ⟨gC, 0, none⟩ ∧ D ≤ gC ∧ Rd wL b1 (Cs14 l) ∧ gC ≠ NB ∧ nc ≤ c1 ∧ c1 ≤ maxLen := by
      rcases hown.2 with ⟨e, e2⟩ | ⟨g2, cap', cur, e, hb', hg', h5, h6, _⟩
      · omega
      · simp only [Value.slice.injEq] at e
        obtain ⟨rfl, _, rfl⟩ := e
        have hne : g2 ≠ NB := fun e => hownN (by rw [e]; rfl)
        refine ⟨g2, rfl, hb', ?_, hne, h5, h6⟩
        exact Rd.kepX (X := fun k => k = NB) (Rd.of_owns hown) (KepX.row gL (fun b e => .inl (Option.some.inj e).symm)) (fun g o e => by cases e; exact hne)
    have hlC : gC < wL.heap.size := by
      obtain ⟨g2, o2, e2, hcs⟩ := hrC (fun e => by have h := congrArg List.length e; have := Hnc.out; rw [Cs14_length, List.length_nil] at h; omega)
      rw [hgC] at e2
      cases e2
      obtain ⟨v0, hv0⟩ : ∃ v, (Cs14 l)[0]? = some v := ⟨_, List.getElem?_eq_getElem (by have := Hnc.out; rw [Cs14_length]; omega)⟩
      exact block_lt_of_cell (hcs 0 v0 hv0)
    have k2L : Blk wL w.heap.size [.slice none 0 0, .slice none 0 0, .slice none 0 0, .int .i64 0] 26 := (k2.step hb6).keptRow gL (by simp; omega)
    have HrC := Lib.hid hrC
    have hlX := kXL.lt
    have hlN := EL.lt
    obtain ⟨G, hG⟩ : ∃ G, wL.heap.size = G := ⟨_, rfl⟩
    rw [hG] at hlC hlX hlN
    have hzL : w.heap.size ≤ G := by rw [← hG]; exact BL.size
    clear hown hownN hrC kN kX gL sL k2 B2 hb6 B6 h3
    subst hgC
    go_wp2_with fail
    go_loopw [20] (fun i wr => ∃ (k : Nat) (a : Option Addr) (c : Nat) (ys : List Lay), k ≤ nc ∧ i = .int .i64 (k : Int) ∧ ys.length = k ∧ Hid (wr.ownsRow G 83 16 (.slice a k c) k (PCs ((l.take k).map F) ys)) ∧
      Blk wr NB [.slice (some ⟨gC, 0, none⟩) nc c1, .slice a k c, .slice (some ⟨X, 0, none⟩) 16 16, .int .i64 1] 26 ∧ KepX (fun k => k = NB) wL wr ∧
      Hid (∀ (j : Nat) (p : S14.P) (y : Lay), ((l.take k).map F)[j]? = some p → ys[j]? = some y → PRobX (XNew w.heap.size NB (.slice a k c)) p y wr)) (fun i _ => nc - (intOf i).toNat)
    case atStart => exact ⟨0, none, 0, [], by omega, rfl, rfl, Lib.hid (World.ownsRow_nil wL _ _ _), EL, KepX.refl _ _, Lib.hid (fun j p y h => by simp at h)⟩
    case round =>
      clear EL
      obtain ⟨k, a, c, ys, hk, rfl, hys, hown, EB, hKX, hrob⟩ := hrel
      have hzr : G ≤ wr.heap.size := by rw [← hG]; exact hKX.size
      have hBr : Below w.heap.size w wr := hKX.toBelow BL (fun k e => by omega)
      by_cases hlt : k < nc
      · have hkz : (k : Int) < (nc : Int) := by omega
        obtain ⟨x, hx⟩ : ∃ x, l[k]? = some x := ⟨_, List.getElem?_eq_getElem (by have := Hnc.out; omega)⟩
        obtain ⟨g1, o1, e1, hcs1⟩ := (Hrd.out.step hBr) (fun e => by have h := congrArg List.length e; have := Hnc.out; rw [Cs14_length, List.length_nil] at h; omega)
        cases e1
        obtain ⟨x0, x1, x2, x3, x4, x5⟩ := elem14 hcs1 hx
        have hoki := Hok.out k x hx
        have hkd := (S14.ok_is hoki).kind
        have HX0 := Lib.hid (HFr.out k x hx hoki)
        have Hx := Lib.hid hx
        have hgr : g < wr.heap.size := block_lt_of_cell x0
        obtain ⟨W5, hW5⟩ : ∃ W5, wr.alloc (.cells #[.int .i64 x.kind, .int .i64 x.bits, .int .i64 x.limit, .int .i64 x.rate, .int .i64 x.first, .int .i64 x.second] 54) = W5 := ⟨_, rfl⟩
        obtain ⟨Q, hQ⟩ : ∃ Q, wr.heap.size = Q := ⟨_, rfl⟩
        have kQ : Blk W5 Q [.int .i64 x.kind, .int .i64 x.bits, .int .i64 x.limit, .int .i64 x.rate, .int .i64 x.first, .int .i64 x.second] 54 := by rw [← hW5, ← hQ]; exact Blk.new wr _ _
        have hb5 : Below wr.heap.size wr W5 := by rw [← hW5]; exact (Below.refl _ _).alloc (Nat.le_refl _) _
        have k05 := EB.step hb5
        have KX5 := hKX.trans (KepX.below hb5)
        have hz5 : G ≤ W5.heap.size := Nat.le_trans hzr hb5.size
        have Hown5 := Lib.hid (owns_step (B := 0) hown.out hb5)
        have Hrob5 := Lib.hid (show ∀ (j : Nat) (p : S14.P) (y : Lay), ((l.take k).map F)[j]? = some p → ys[j]? = some y → PRobX (XNew w.heap.size NB (.slice a k c)) p y W5 from fun j p y h1 h2 => (hrob.out j p y h1 h2).kep (KepX.below hb5))
        have hCS : Cells W5 [(⟨Q, 0, none⟩, .int .i64 x.kind), (⟨Q, 1, none⟩, .int .i64 x.bits), (⟨Q, 2, none⟩, .int .i64 x.limit), (⟨Q, 3, none⟩, .int .i64 x.rate), (⟨Q, 4, none⟩, .int .i64 x.first), (⟨Q, 5, none⟩, .int .i64 x.second), (⟨NB, 1, none⟩, .slice a k c)] :=
          ⟨kQ.cell 0, kQ.cell 1, kQ.cell 2, kQ.cell 3, kQ.cell 4, kQ.cell 5, k05.cell 1, trivial⟩
        clear hb5 hown hrob EB hKX hcs1 hoki hx
        go_wp2_with (first | (rw [hW5, hQ]) | (rw [hW5]) | fail)
        clear x0 x1 x2 x3 x4 x5
        unfold FreshF CV Cells14 at HX0
        by_cases k0 : x.kind = 0
        · have hof : OfV x = .iface 115 (.agg #[.int .i64 x.kind, .int .i64 x.bits, .int .i64 x.limit, .int .i64 x.rate, .int .i64 x.first, .int .i64 x.second]) := by
            unfold OfV CV Cells14; simp only [k0]; rfl
          have hX3 : ∀ W, Calls Tryz.prog 171 #[.agg #[.int .i64 x.kind, .int .i64 x.bits, .int .i64 x.limit, .int .i64 x.rate, .int .i64 x.first, .int .i64 x.second]] W fun e w' => ∃ y, e = .returned (PV (F x) y) ∧ PRob 0 W.heap.size (F x) y w' ∧ Below W.heap.size W w' := fun W => by
            have := HX0.out W
            simp only [k0] at this ⊢
            exact this
          have HX := Lib.hid hX3
          have hen := enters_of Tryz.func171 (by kernel_rfl) rfl
          have hme := methFresh_constant (.agg #[.int .i64 x.kind, .int .i64 x.bits, .int .i64 x.limit, .int .i64 x.rate, .int .i64 x.first, .int .i64 x.second])
          have hah := aheadFresh_constant (.agg #[.int .i64 x.kind, .int .i64 x.bits, .int .i64 x.limit, .int .i64 x.rate, .int .i64 x.first, .int .i64 x.second])
          clear k0 hX3 HX0
          go_wp2_with fail
          refine wp_region_seq 7 2 [(true, [true, true, true]), (false, [false, false, false, true]), (false, [false, false, false, false, true]), (false, [false, false, false, false, false, true]), (false, [false, false, false, false, false, false, true])] _ _ (fun K => Below G W5 K ∧ Cells K [(⟨Q, 0, none⟩, .int .i64 x.kind), (⟨Q, 1, none⟩, .int .i64 x.bits), (⟨Q, 2, none⟩, .int .i64 x.limit), (⟨Q, 3, none⟩, .int .i64 x.rate), (⟨Q, 4, none⟩, .int .i64 x.first), (⟨Q, 5, none⟩, .int .i64 x.second), (⟨NB, 1, none⟩, .slice a k c)]) (by kernel_rfl) (List.take_append_drop 7 _).symm (by kernel_rfl) (by kernel_rfl) (by kernel_rfl) (by kernel_rfl) (⟨((Below.refl _ _).drew).mono hz5, hCS⟩) (fun Y Q4 F4 hY hF => ?_)
          simp only [phased, List.flatMap_cons, List.flatMap_nil, List.take_succ_cons, List.take_zero, List.drop_succ_cons, List.drop_zero, sel_true, sel_false, sel_nil, List.map_cons, List.map_nil, List.cons_append, List.nil_append, List.append_nil]
          repeat
            apply wpSeq_read (by first | rfl | (rw [hY]; rfl))
            · intro w2 hS2
              (try simp only [Keeps, Cells] at hS2)
              (try simp only [HasC, Cells] at hS2)
              go_simp
              with_reducible rfl
            simp only [Act.put, List.setIfInBounds_toArray, List.set_cons_zero, List.set_cons_succ]
          apply wpSeq_call (by first | rfl | (rw [hY]; rfl))
          · go_simp
            with_reducible exact ⟨rfl, rfl⟩
          refine (HO.out x _).mono ?_
          rintro e w6 ⟨rfl, hb6⟩
          have hb56 : Below W5.heap.size W5 w6 := below_trans ((Below.refl _ _).drew) hb6
          have hcs6 : Cells w6 [(⟨Q, 0, none⟩, .int .i64 x.kind), (⟨Q, 1, none⟩, .int .i64 x.bits), (⟨Q, 2, none⟩, .int .i64 x.limit), (⟨Q, 3, none⟩, .int .i64 x.rate), (⟨Q, 4, none⟩, .int .i64 x.first), (⟨Q, 5, none⟩, .int .i64 x.second), (⟨NB, 1, none⟩, .slice a k c)] := Cells.step hb56 hCS
          refine ⟨_, rfl, ⟨hb56.mono hz5, hcs6⟩, ?_⟩
          simp only [Act.put, List.setIfInBounds_toArray, List.set_cons_zero, List.set_cons_succ]
          rw [hof]
          apply wpSeq_call (by first | rfl | (rw [hY]; rfl))
          · go_simp
            with_reducible exact ⟨rfl, rfl⟩
          refine (HX.out w6).mono ?_
          rintro e w7 ⟨y, rfl, hY7, hb7⟩
          have hcs7 : Cells w7 [(⟨Q, 0, none⟩, .int .i64 x.kind), (⟨Q, 1, none⟩, .int .i64 x.bits), (⟨Q, 2, none⟩, .int .i64 x.limit), (⟨Q, 3, none⟩, .int .i64 x.rate), (⟨Q, 4, none⟩, .int .i64 x.first), (⟨Q, 5, none⟩, .int .i64 x.second), (⟨NB, 1, none⟩, .slice a k c)] := Cells.step hb7 hcs6
          have hb57 : Below W5.heap.size W5 w7 := below_trans hb56 hb7
          refine ⟨_, rfl, ⟨hb57.mono hz5, hcs7⟩, ?_⟩
          simp only [Act.put, List.setIfInBounds_toArray, List.set_cons_zero, List.set_cons_succ]
          have hb8 : Below w7.heap.size w7 (w7.alloc (.cells (PVals (F x) y).toArray 83)) := (Below.refl _ _).alloc (Nat.le_refl _) _
          have hb58 := below_trans hb57 hb8
          have hcs8 := Cells.step hb8 hcs7
          have Hh8 := Lib.hid (owns_step (B := 0) Hown5.out hb58)
          have Hr8 : Hid (Rd (w7.alloc (.cells (PVals (F x) y).toArray 83)) (some ⟨w7.heap.size, 0, none⟩) (PVals (F x) y)) := Lib.hid (fun _ => ⟨_, 0, rfl, (Blk.new w7 (PVals (F x) y) 83).cells⟩)
          have k08 := k05.step hb58
          have kQ8 := kQ.step hb58
          have hz8 : G ≤ (w7.alloc (.cells (PVals (F x) y).toArray 83)).heap.size := Nat.le_trans hz5 hb58.size
          have hz67 : w6.heap.size ≤ w7.heap.size := hb7.size
          have hz56 : W5.heap.size ≤ w6.heap.size := hb56.size
          have HY8 : Hid (PRob 0 w6.heap.size (F x) y (w7.alloc (.cells (PVals (F x) y).toArray 83))) := Lib.hid (hY7.kept (Kept.below hb8))
          unfold PV
          obtain ⟨v0, v1, v2, v3, v4, v5, v6, v7, v8, v9, v10, v11, v12, v13, v14, v15, hVS⟩ := PVals_16 (F x) y
          rw [hVS] at hb8 hb58 hcs8 Hh8 Hr8 k08 kQ8 hz8 HY8 ⊢
          have HVS := Lib.hid hVS
          clear hVS hY7
          refine wpSeq_value (by first | rfl | (rw [hY]; rfl)) (by go_simp; first | with_reducible exact ⟨rfl, rfl⟩ | with_reducible rfl) ((show Below G W5 (w7.alloc (.cells #[v0, v1, v2, v3, v4, v5, v6, v7, v8, v9, v10, v11, v12, v13, v14, v15] 83)) ∧ Cells (w7.alloc (.cells #[v0, v1, v2, v3, v4, v5, v6, v7, v8, v9, v10, v11, v12, v13, v14, v15] 83)) [(⟨Q, 0, none⟩, .int .i64 x.kind), (⟨Q, 1, none⟩, .int .i64 x.bits), (⟨Q, 2, none⟩, .int .i64 x.limit), (⟨Q, 3, none⟩, .int .i64 x.rate), (⟨Q, 4, none⟩, .int .i64 x.first), (⟨Q, 5, none⟩, .int .i64 x.second), (⟨NB, 1, none⟩, .slice a k c)] from ⟨hb58.mono hz5, hcs8⟩)) ?_
          simp only [Act.put, List.setIfInBounds_toArray, List.set_cons_zero, List.set_cons_succ]
          generalize w7.alloc (.cells #[v0, v1, v2, v3, v4, v5, v6, v7, v8, v9, v10, v11, v12, v13, v14, v15] 83) = w8 at *
          refine wpSeq_append_at14 (.tmp 25) (.tmp 29) 23 83 16 240 _ G elems_parts (.slice a k c) k (PCs ((l.take k).map F) ys) ⟨w7.heap.size, 0, none⟩ 1 1 [v0, v1, v2, v3, v4, v5, v6, v7, v8, v9, v10, v11, v12, v13, v14, v15] (by first | rfl | (rw [hY]; rfl)) rfl rfl rfl rfl (by simp) (HVS.out ▸ PVals_one (F x) y) (by unfold maxLen; omega) (by omega) Hh8.out Hr8.out hz8 ?_
          intro a9 c9 w9 hown9 hg9 hat9
          have hneN := own_apart14 Hh8.out k08 (by decide)
          have hneQ := own_apart14 Hh8.out kQ8 (by decide)
          have k09 := k08.keptRow hg9 (Ne.symm hneN)
          have kQ9 := kQ8.keptRow hg9 (Ne.symm hneQ)
          have hB9 : Below G w8 w9 := Below.grown (Below.refl _ _) hg9 hz8 (fun r e => (owns_block Hh8.out e).1)
          have hB59 : Below G W5 w9 := (hb58.mono hz5).trans hB9
          have hKX8 : KepX (fun k => k = NB) wL w8 := KX5.trans (KepX.below hb58)
          have hKX9 : KepX (fun k => k = NB) wL w9 := hKX8.rowB hg9 (fun b e => .inr (by rw [hG]; exact (owns_block Hh8.out e).1))
          have Hown9 : Hid (w9.ownsRow G 83 16 (.slice a9 (k + 1) c9) (k + 1) (PCs ((l.take (k + 1)).map F) (ys ++ [y]))) := Lib.hid (by
            rw [take_snoc14 Hx.out, List.map_append, List.map_cons, List.map_nil, PCs_snoc _ _ _ _ (by rw [hys, List.length_map, List.length_take]; have := Hnc.out; omega), HVS.out]
            exact hown9)
          have Hrob9 : Hid (∀ (j : Nat) (p : S14.P) (y' : Lay), ((l.take (k + 1)).map F)[j]? = some p → (ys ++ [y])[j]? = some y' → PRobX (XNew w.heap.size NB (.slice a9 (k + 1) c9)) p y' w9) := Lib.hid (fun j p y' h1 h2 => by
            have h8 : PRobX (XNew w.heap.size NB (.slice a k c)) p y' w8 := by
              rw [take_snoc14 Hx.out, List.map_append, List.map_cons, List.map_nil] at h1
              have hlk : ((l.take k).map F).length = k := by rw [List.length_map, List.length_take]; have := Hnc.out; omega
              rcases Nat.lt_trichotomy j k with hj | hj | hj
              · rw [List.getElem?_append_left (by omega)] at h1 h2
                exact (Hrob5.out j p y' h1 h2).kep (KepX.below hb58)
              · subst hj
                rw [List.getElem?_append_right (by omega), hlk, Nat.sub_self] at h1
                rw [List.getElem?_append_right (by omega), hys, Nat.sub_self] at h2
                simp only [List.getElem?_cons_zero, Option.some.injEq] at h1 h2
                subst h1; subst h2
                refine HY8.out.toX (fun b _ hb => ⟨Nat.zero_le _, ?_⟩)
                rcases hb with rfl | rfl | hb
                · omega
                · omega
                · have := (Hown5.out.lt b hb).2
                  omega
              · rw [List.getElem?_append_right (by omega), List.getElem?_eq_none (by simp; omega)] at h1
                cases h1
            exact h8.append hg9 (fun b e => .inr (.inr e)) (fun b hb hx => by
              rcases hx with h | h | h
              · exact .inl h
              · exact .inr (.inl h)
              · rcases hat9 with e | e
                · exact .inr (.inr (e ▸ h))
                · rw [e] at h; cases h; omega))
          have hz9 := hB59.size
          clear hown9 hg9 hat9 hneN hneQ hKX8 HY8 Hrob5 Hown5 Hh8 Hr8
          refine ⟨⟨hB59, kQ9.cell 0, kQ9.cell 1, kQ9.cell 2, kQ9.cell 3, kQ9.cell 4, kQ9.cell 5, k09.cell 1, trivial⟩, ?_⟩
          simp only [Act.put, List.setIfInBounds_toArray, List.set_cons_zero, List.set_cons_succ]
          refine wpSeq_done (hF.out _ _ (fun K hK => ?_))
          clear hF hY
          have f1 := k09.cell 1
          have f1f := k09.free 1
          have EB' := k09.set 1 (.slice a9 (k + 1) c9)
          simp only [List.set_cons_zero, List.set_cons_succ, List.getElem?_cons_zero, List.getElem?_cons_succ] at f1 EB'
          go_wp2_with fail
          refine OnlyK.mk (hK.out _ _ ?_)
          clear hK
          have hgs := grown_set14 w9 NB 1 (.slice a9 (k + 1) c9)
          have hKX' := hKX9.trans (KepX.row hgs (fun b e => .inl (Option.some.inj e).symm))
          have Hown' := Lib.hid (owns_keep Hown9.out hgs hlN)
          have Hrob' := Lib.hid (show ∀ (j : Nat) (p : S14.P) (y' : Lay), ((l.take (k + 1)).map F)[j]? = some p → (ys ++ [y])[j]? = some y' → PRobX (XNew w.heap.size NB (.slice a9 (k + 1) c9)) p y' (w9.setCell ⟨NB, 1, none⟩ (.slice a9 (k + 1) c9)) from fun j p y' h1 h2 => (Hrob9.out j p y' h1 h2).kep (KepX.row hgs (fun b e => .inl (.inr (.inl (Option.some.inj e).symm)))))
          generalize w9.setCell ⟨NB, 1, none⟩ (.slice a9 (k + 1) c9) = w10 at *
          clear Hown9 Hrob9 hgs f1 f1f hKX9 k09 kQ9
          go_wp2
          go_roundw
          case rel => exact ⟨k + 1, a9, c9, ys ++ [y], by omega, by simp, by rw [List.length_append, hys]; rfl, Hown', EB', hKX', Hrob'⟩
          case measure => simp [intOf]; omega
        by_cases k1 : x.kind = 1
        · have hof : OfV x = .iface 116 (.agg #[.int .i64 x.kind, .int .i64 x.bits, .int .i64 x.limit, .int .i64 x.rate, .int .i64 x.first, .int .i64 x.second]) := by
            unfold OfV CV Cells14; simp only [k1]; rfl
          have hX3 : ∀ W, Calls Tryz.prog 184 #[.agg #[.int .i64 x.kind, .int .i64 x.bits, .int .i64 x.limit, .int .i64 x.rate, .int .i64 x.first, .int .i64 x.second]] W fun e w' => ∃ y, e = .returned (PV (F x) y) ∧ PRob 0 W.heap.size (F x) y w' ∧ Below W.heap.size W w' := fun W => by
            have := HX0.out W
            simp only [k1] at this ⊢
            exact this
          have HX := Lib.hid hX3
          have hen := enters_of Tryz.func184 (by kernel_rfl) rfl
          have hme := methFresh_direct (.agg #[.int .i64 x.kind, .int .i64 x.bits, .int .i64 x.limit, .int .i64 x.rate, .int .i64 x.first, .int .i64 x.second])
          have hah := aheadFresh_direct (.agg #[.int .i64 x.kind, .int .i64 x.bits, .int .i64 x.limit, .int .i64 x.rate, .int .i64 x.first, .int .i64 x.second])
          clear k1 hX3 HX0
          go_wp2_with fail
          refine wp_region_seq 7 2 [(true, [true, true, true]), (false, [false, false, false, true]), (false, [false, false, false, false, true]), (false, [false, false, false, false, false, true]), (false, [false, false, false, false, false, false, true])] _ _ (fun K => Below G W5 K ∧ Cells K [(⟨Q, 0, none⟩, .int .i64 x.kind), (⟨Q, 1, none⟩, .int .i64 x.bits), (⟨Q, 2, none⟩, .int .i64 x.limit), (⟨Q, 3, none⟩, .int .i64 x.rate), (⟨Q, 4, none⟩, .int .i64 x.first), (⟨Q, 5, none⟩, .int .i64 x.second), (⟨NB, 1, none⟩, .slice a k c)]) (by kernel_rfl) (List.take_append_drop 7 _).symm (by kernel_rfl) (by kernel_rfl) (by kernel_rfl) (by kernel_rfl) (⟨((Below.refl _ _).drew).mono hz5, hCS⟩) (fun Y Q4 F4 hY hF => ?_)
          simp only [phased, List.flatMap_cons, List.flatMap_nil, List.take_succ_cons, List.take_zero, List.drop_succ_cons, List.drop_zero, sel_true, sel_false, sel_nil, List.map_cons, List.map_nil, List.cons_append, List.nil_append, List.append_nil]
          repeat
            apply wpSeq_read (by first | rfl | (rw [hY]; rfl))
            · intro w2 hS2
              (try simp only [Keeps, Cells] at hS2)
              (try simp only [HasC, Cells] at hS2)
              go_simp
              with_reducible rfl
            simp only [Act.put, List.setIfInBounds_toArray, List.set_cons_zero, List.set_cons_succ]
          apply wpSeq_call (by first | rfl | (rw [hY]; rfl))
          · go_simp
            with_reducible exact ⟨rfl, rfl⟩
          refine (HO.out x _).mono ?_
          rintro e w6 ⟨rfl, hb6⟩
          have hb56 : Below W5.heap.size W5 w6 := below_trans ((Below.refl _ _).drew) hb6
          have hcs6 : Cells w6 [(⟨Q, 0, none⟩, .int .i64 x.kind), (⟨Q, 1, none⟩, .int .i64 x.bits), (⟨Q, 2, none⟩, .int .i64 x.limit), (⟨Q, 3, none⟩, .int .i64 x.rate), (⟨Q, 4, none⟩, .int .i64 x.first), (⟨Q, 5, none⟩, .int .i64 x.second), (⟨NB, 1, none⟩, .slice a k c)] := Cells.step hb56 hCS
          refine ⟨_, rfl, ⟨hb56.mono hz5, hcs6⟩, ?_⟩
          simp only [Act.put, List.setIfInBounds_toArray, List.set_cons_zero, List.set_cons_succ]
          rw [hof]
          apply wpSeq_call (by first | rfl | (rw [hY]; rfl))
          · go_simp
            with_reducible exact ⟨rfl, rfl⟩
          refine (HX.out w6).mono ?_
          rintro e w7 ⟨y, rfl, hY7, hb7⟩
          have hcs7 : Cells w7 [(⟨Q, 0, none⟩, .int .i64 x.kind), (⟨Q, 1, none⟩, .int .i64 x.bits), (⟨Q, 2, none⟩, .int .i64 x.limit), (⟨Q, 3, none⟩, .int .i64 x.rate), (⟨Q, 4, none⟩, .int .i64 x.first), (⟨Q, 5, none⟩, .int .i64 x.second), (⟨NB, 1, none⟩, .slice a k c)] := Cells.step hb7 hcs6
          have hb57 : Below W5.heap.size W5 w7 := below_trans hb56 hb7
          refine ⟨_, rfl, ⟨hb57.mono hz5, hcs7⟩, ?_⟩
          simp only [Act.put, List.setIfInBounds_toArray, List.set_cons_zero, List.set_cons_succ]
          have hb8 : Below w7.heap.size w7 (w7.alloc (.cells (PVals (F x) y).toArray 83)) := (Below.refl _ _).alloc (Nat.le_refl _) _
          have hb58 := below_trans hb57 hb8
          have hcs8 := Cells.step hb8 hcs7
          have Hh8 := Lib.hid (owns_step (B := 0) Hown5.out hb58)
          have Hr8 : Hid (Rd (w7.alloc (.cells (PVals (F x) y).toArray 83)) (some ⟨w7.heap.size, 0, none⟩) (PVals (F x) y)) := Lib.hid (fun _ => ⟨_, 0, rfl, (Blk.new w7 (PVals (F x) y) 83).cells⟩)
          have k08 := k05.step hb58
          have kQ8 := kQ.step hb58
          have hz8 : G ≤ (w7.alloc (.cells (PVals (F x) y).toArray 83)).heap.size := Nat.le_trans hz5 hb58.size
          have hz67 : w6.heap.size ≤ w7.heap.size := hb7.size
          have hz56 : W5.heap.size ≤ w6.heap.size := hb56.size
          have HY8 : Hid (PRob 0 w6.heap.size (F x) y (w7.alloc (.cells (PVals (F x) y).toArray 83))) := Lib.hid (hY7.kept (Kept.below hb8))
          unfold PV
          obtain ⟨v0, v1, v2, v3, v4, v5, v6, v7, v8, v9, v10, v11, v12, v13, v14, v15, hVS⟩ := PVals_16 (F x) y
          rw [hVS] at hb8 hb58 hcs8 Hh8 Hr8 k08 kQ8 hz8 HY8 ⊢
          have HVS := Lib.hid hVS
          clear hVS hY7
          refine wpSeq_value (by first | rfl | (rw [hY]; rfl)) (by go_simp; first | with_reducible exact ⟨rfl, rfl⟩ | with_reducible rfl) ((show Below G W5 (w7.alloc (.cells #[v0, v1, v2, v3, v4, v5, v6, v7, v8, v9, v10, v11, v12, v13, v14, v15] 83)) ∧ Cells (w7.alloc (.cells #[v0, v1, v2, v3, v4, v5, v6, v7, v8, v9, v10, v11, v12, v13, v14, v15] 83)) [(⟨Q, 0, none⟩, .int .i64 x.kind), (⟨Q, 1, none⟩, .int .i64 x.bits), (⟨Q, 2, none⟩, .int .i64 x.limit), (⟨Q, 3, none⟩, .int .i64 x.rate), (⟨Q, 4, none⟩, .int .i64 x.first), (⟨Q, 5, none⟩, .int .i64 x.second), (⟨NB, 1, none⟩, .slice a k c)] from ⟨hb58.mono hz5, hcs8⟩)) ?_
          simp only [Act.put, List.setIfInBounds_toArray, List.set_cons_zero, List.set_cons_succ]
          generalize w7.alloc (.cells #[v0, v1, v2, v3, v4, v5, v6, v7, v8, v9, v10, v11, v12, v13, v14, v15] 83) = w8 at *
          refine wpSeq_append_at14 (.tmp 25) (.tmp 29) 23 83 16 240 _ G elems_parts (.slice a k c) k (PCs ((l.take k).map F) ys) ⟨w7.heap.size, 0, none⟩ 1 1 [v0, v1, v2, v3, v4, v5, v6, v7, v8, v9, v10, v11, v12, v13, v14, v15] (by first | rfl | (rw [hY]; rfl)) rfl rfl rfl rfl (by simp) (HVS.out ▸ PVals_one (F x) y) (by unfold maxLen; omega) (by omega) Hh8.out Hr8.out hz8 ?_
          intro a9 c9 w9 hown9 hg9 hat9
          have hneN := own_apart14 Hh8.out k08 (by decide)
          have hneQ := own_apart14 Hh8.out kQ8 (by decide)
          have k09 := k08.keptRow hg9 (Ne.symm hneN)
          have kQ9 := kQ8.keptRow hg9 (Ne.symm hneQ)
          have hB9 : Below G w8 w9 := Below.grown (Below.refl _ _) hg9 hz8 (fun r e => (owns_block Hh8.out e).1)
          have hB59 : Below G W5 w9 := (hb58.mono hz5).trans hB9
          have hKX8 : KepX (fun k => k = NB) wL w8 := KX5.trans (KepX.below hb58)
          have hKX9 : KepX (fun k => k = NB) wL w9 := hKX8.rowB hg9 (fun b e => .inr (by rw [hG]; exact (owns_block Hh8.out e).1))
          have Hown9 : Hid (w9.ownsRow G 83 16 (.slice a9 (k + 1) c9) (k + 1) (PCs ((l.take (k + 1)).map F) (ys ++ [y]))) := Lib.hid (by
            rw [take_snoc14 Hx.out, List.map_append, List.map_cons, List.map_nil, PCs_snoc _ _ _ _ (by rw [hys, List.length_map, List.length_take]; have := Hnc.out; omega), HVS.out]
            exact hown9)
          have Hrob9 : Hid (∀ (j : Nat) (p : S14.P) (y' : Lay), ((l.take (k + 1)).map F)[j]? = some p → (ys ++ [y])[j]? = some y' → PRobX (XNew w.heap.size NB (.slice a9 (k + 1) c9)) p y' w9) := Lib.hid (fun j p y' h1 h2 => by
            have h8 : PRobX (XNew w.heap.size NB (.slice a k c)) p y' w8 := by
              rw [take_snoc14 Hx.out, List.map_append, List.map_cons, List.map_nil] at h1
              have hlk : ((l.take k).map F).length = k := by rw [List.length_map, List.length_take]; have := Hnc.out; omega
              rcases Nat.lt_trichotomy j k with hj | hj | hj
              · rw [List.getElem?_append_left (by omega)] at h1 h2
                exact (Hrob5.out j p y' h1 h2).kep (KepX.below hb58)
              · subst hj
                rw [List.getElem?_append_right (by omega), hlk, Nat.sub_self] at h1
                rw [List.getElem?_append_right (by omega), hys, Nat.sub_self] at h2
                simp only [List.getElem?_cons_zero, Option.some.injEq] at h1 h2
                subst h1; subst h2
                refine HY8.out.toX (fun b _ hb => ⟨Nat.zero_le _, ?_⟩)
                rcases hb with rfl | rfl | hb
                · omega
                · omega
                · have := (Hown5.out.lt b hb).2
                  omega
              · rw [List.getElem?_append_right (by omega), List.getElem?_eq_none (by simp; omega)] at h1
                cases h1
            exact h8.append hg9 (fun b e => .inr (.inr e)) (fun b hb hx => by
              rcases hx with h | h | h
              · exact .inl h
              · exact .inr (.inl h)
              · rcases hat9 with e | e
                · exact .inr (.inr (e ▸ h))
                · rw [e] at h; cases h; omega))
          have hz9 := hB59.size
          clear hown9 hg9 hat9 hneN hneQ hKX8 HY8 Hrob5 Hown5 Hh8 Hr8
          refine ⟨⟨hB59, kQ9.cell 0, kQ9.cell 1, kQ9.cell 2, kQ9.cell 3, kQ9.cell 4, kQ9.cell 5, k09.cell 1, trivial⟩, ?_⟩
          simp only [Act.put, List.setIfInBounds_toArray, List.set_cons_zero, List.set_cons_succ]
          refine wpSeq_done (hF.out _ _ (fun K hK => ?_))
          clear hF hY
          have f1 := k09.cell 1
          have f1f := k09.free 1
          have EB' := k09.set 1 (.slice a9 (k + 1) c9)
          simp only [List.set_cons_zero, List.set_cons_succ, List.getElem?_cons_zero, List.getElem?_cons_succ] at f1 EB'
          go_wp2_with fail
          refine OnlyK.mk (hK.out _ _ ?_)
          clear hK
          have hgs := grown_set14 w9 NB 1 (.slice a9 (k + 1) c9)
          have hKX' := hKX9.trans (KepX.row hgs (fun b e => .inl (Option.some.inj e).symm))
          have Hown' := Lib.hid (owns_keep Hown9.out hgs hlN)
          have Hrob' := Lib.hid (show ∀ (j : Nat) (p : S14.P) (y' : Lay), ((l.take (k + 1)).map F)[j]? = some p → (ys ++ [y])[j]? = some y' → PRobX (XNew w.heap.size NB (.slice a9 (k + 1) c9)) p y' (w9.setCell ⟨NB, 1, none⟩ (.slice a9 (k + 1) c9)) from fun j p y' h1 h2 => (Hrob9.out j p y' h1 h2).kep (KepX.row hgs (fun b e => .inl (.inr (.inl (Option.some.inj e).symm)))))
          generalize w9.setCell ⟨NB, 1, none⟩ (.slice a9 (k + 1) c9) = w10 at *
          clear Hown9 Hrob9 hgs f1 f1f hKX9 k09 kQ9
          go_wp2
          go_roundw
          case rel => exact ⟨k + 1, a9, c9, ys ++ [y], by omega, by simp, by rw [List.length_append, hys]; rfl, Hown', EB', hKX', Hrob'⟩
          case measure => simp [intOf]; omega
        by_cases k2 : x.kind = 2
        · have hof : OfV x = .iface 117 (.agg #[.int .i64 x.kind, .int .i64 x.bits, .int .i64 x.limit, .int .i64 x.rate, .int .i64 x.first, .int .i64 x.second]) := by
            unfold OfV CV Cells14; simp only [k2]; rfl
          have hX3 : ∀ W, Calls Tryz.prog 213 #[.agg #[.int .i64 x.kind, .int .i64 x.bits, .int .i64 x.limit, .int .i64 x.rate, .int .i64 x.first, .int .i64 x.second]] W fun e w' => ∃ y, e = .returned (PV (F x) y) ∧ PRob 0 W.heap.size (F x) y w' ∧ Below W.heap.size W w' := fun W => by
            have := HX0.out W
            simp only [k2] at this ⊢
            exact this
          have HX := Lib.hid hX3
          have hen := enters_of Tryz.func213 (by kernel_rfl) rfl
          have hme := methFresh_history (.agg #[.int .i64 x.kind, .int .i64 x.bits, .int .i64 x.limit, .int .i64 x.rate, .int .i64 x.first, .int .i64 x.second])
          have hah := aheadFresh_history (.agg #[.int .i64 x.kind, .int .i64 x.bits, .int .i64 x.limit, .int .i64 x.rate, .int .i64 x.first, .int .i64 x.second])
          clear k2 hX3 HX0
          go_wp2_with fail
          refine wp_region_seq 7 2 [(true, [true, true, true]), (false, [false, false, false, true]), (false, [false, false, false, false, true]), (false, [false, false, false, false, false, true]), (false, [false, false, false, false, false, false, true])] _ _ (fun K => Below G W5 K ∧ Cells K [(⟨Q, 0, none⟩, .int .i64 x.kind), (⟨Q, 1, none⟩, .int .i64 x.bits), (⟨Q, 2, none⟩, .int .i64 x.limit), (⟨Q, 3, none⟩, .int .i64 x.rate), (⟨Q, 4, none⟩, .int .i64 x.first), (⟨Q, 5, none⟩, .int .i64 x.second), (⟨NB, 1, none⟩, .slice a k c)]) (by kernel_rfl) (List.take_append_drop 7 _).symm (by kernel_rfl) (by kernel_rfl) (by kernel_rfl) (by kernel_rfl) (⟨((Below.refl _ _).drew).mono hz5, hCS⟩) (fun Y Q4 F4 hY hF => ?_)
          simp only [phased, List.flatMap_cons, List.flatMap_nil, List.take_succ_cons, List.take_zero, List.drop_succ_cons, List.drop_zero, sel_true, sel_false, sel_nil, List.map_cons, List.map_nil, List.cons_append, List.nil_append, List.append_nil]
          repeat
            apply wpSeq_read (by first | rfl | (rw [hY]; rfl))
            · intro w2 hS2
              (try simp only [Keeps, Cells] at hS2)
              (try simp only [HasC, Cells] at hS2)
              go_simp
              with_reducible rfl
            simp only [Act.put, List.setIfInBounds_toArray, List.set_cons_zero, List.set_cons_succ]
          apply wpSeq_call (by first | rfl | (rw [hY]; rfl))
          · go_simp
            with_reducible exact ⟨rfl, rfl⟩
          refine (HO.out x _).mono ?_
          rintro e w6 ⟨rfl, hb6⟩
          have hb56 : Below W5.heap.size W5 w6 := below_trans ((Below.refl _ _).drew) hb6
          have hcs6 : Cells w6 [(⟨Q, 0, none⟩, .int .i64 x.kind), (⟨Q, 1, none⟩, .int .i64 x.bits), (⟨Q, 2, none⟩, .int .i64 x.limit), (⟨Q, 3, none⟩, .int .i64 x.rate), (⟨Q, 4, none⟩, .int .i64 x.first), (⟨Q, 5, none⟩, .int .i64 x.second), (⟨NB, 1, none⟩, .slice a k c)] := Cells.step hb56 hCS
          refine ⟨_, rfl, ⟨hb56.mono hz5, hcs6⟩, ?_⟩
          simp only [Act.put, List.setIfInBounds_toArray, List.set_cons_zero, List.set_cons_succ]
          rw [hof]
          apply wpSeq_call (by first | rfl | (rw [hY]; rfl))
          · go_simp
            with_reducible exact ⟨rfl, rfl⟩
          refine (HX.out w6).mono ?_
          rintro e w7 ⟨y, rfl, hY7, hb7⟩
          have hcs7 : Cells w7 [(⟨Q, 0, none⟩, .int .i64 x.kind), (⟨Q, 1, none⟩, .int .i64 x.bits), (⟨Q, 2, none⟩, .int .i64 x.limit), (⟨Q, 3, none⟩, .int .i64 x.rate), (⟨Q, 4, none⟩, .int .i64 x.first), (⟨Q, 5, none⟩, .int .i64 x.second), (⟨NB, 1, none⟩, .slice a k c)] := Cells.step hb7 hcs6
          have hb57 : Below W5.heap.size W5 w7 := below_trans hb56 hb7
          refine ⟨_, rfl, ⟨hb57.mono hz5, hcs7⟩, ?_⟩
          simp only [Act.put, List.setIfInBounds_toArray, List.set_cons_zero, List.set_cons_succ]
          have hb8 : Below w7.heap.size w7 (w7.alloc (.cells (PVals (F x) y).toArray 83)) := (Below.refl _ _).alloc (Nat.le_refl _) _
          have hb58 := below_trans hb57 hb8
          have hcs8 := Cells.step hb8 hcs7
          have Hh8 := Lib.hid (owns_step (B := 0) Hown5.out hb58)
          have Hr8 : Hid (Rd (w7.alloc (.cells (PVals (F x) y).toArray 83)) (some ⟨w7.heap.size, 0, none⟩) (PVals (F x) y)) := Lib.hid (fun _ => ⟨_, 0, rfl, (Blk.new w7 (PVals (F x) y) 83).cells⟩)
          have k08 := k05.step hb58
          have kQ8 := kQ.step hb58
          have hz8 : G ≤ (w7.alloc (.cells (PVals (F x) y).toArray 83)).heap.size := Nat.le_trans hz5 hb58.size
          have hz67 : w6.heap.size ≤ w7.heap.size := hb7.size
          have hz56 : W5.heap.size ≤ w6.heap.size := hb56.size
          have HY8 : Hid (PRob 0 w6.heap.size (F x) y (w7.alloc (.cells (PVals (F x) y).toArray 83))) := Lib.hid (hY7.kept (Kept.below hb8))
          unfold PV
          obtain ⟨v0, v1, v2, v3, v4, v5, v6, v7, v8, v9, v10, v11, v12, v13, v14, v15, hVS⟩ := PVals_16 (F x) y
          rw [hVS] at hb8 hb58 hcs8 Hh8 Hr8 k08 kQ8 hz8 HY8 ⊢
          have HVS := Lib.hid hVS
          clear hVS hY7
          refine wpSeq_value (by first | rfl | (rw [hY]; rfl)) (by go_simp; first | with_reducible exact ⟨rfl, rfl⟩ | with_reducible rfl) ((show Below G W5 (w7.alloc (.cells #[v0, v1, v2, v3, v4, v5, v6, v7, v8, v9, v10, v11, v12, v13, v14, v15] 83)) ∧ Cells (w7.alloc (.cells #[v0, v1, v2, v3, v4, v5, v6, v7, v8, v9, v10, v11, v12, v13, v14, v15] 83)) [(⟨Q, 0, none⟩, .int .i64 x.kind), (⟨Q, 1, none⟩, .int .i64 x.bits), (⟨Q, 2, none⟩, .int .i64 x.limit), (⟨Q, 3, none⟩, .int .i64 x.rate), (⟨Q, 4, none⟩, .int .i64 x.first), (⟨Q, 5, none⟩, .int .i64 x.second), (⟨NB, 1, none⟩, .slice a k c)] from ⟨hb58.mono hz5, hcs8⟩)) ?_
          simp only [Act.put, List.setIfInBounds_toArray, List.set_cons_zero, List.set_cons_succ]
          generalize w7.alloc (.cells #[v0, v1, v2, v3, v4, v5, v6, v7, v8, v9, v10, v11, v12, v13, v14, v15] 83) = w8 at *
          refine wpSeq_append_at14 (.tmp 25) (.tmp 29) 23 83 16 240 _ G elems_parts (.slice a k c) k (PCs ((l.take k).map F) ys) ⟨w7.heap.size, 0, none⟩ 1 1 [v0, v1, v2, v3, v4, v5, v6, v7, v8, v9, v10, v11, v12, v13, v14, v15] (by first | rfl | (rw [hY]; rfl)) rfl rfl rfl rfl (by simp) (HVS.out ▸ PVals_one (F x) y) (by unfold maxLen; omega) (by omega) Hh8.out Hr8.out hz8 ?_
          intro a9 c9 w9 hown9 hg9 hat9
          have hneN := own_apart14 Hh8.out k08 (by decide)
          have hneQ := own_apart14 Hh8.out kQ8 (by decide)
          have k09 := k08.keptRow hg9 (Ne.symm hneN)
          have kQ9 := kQ8.keptRow hg9 (Ne.symm hneQ)
          have hB9 : Below G w8 w9 := Below.grown (Below.refl _ _) hg9 hz8 (fun r e => (owns_block Hh8.out e).1)
          have hB59 : Below G W5 w9 := (hb58.mono hz5).trans hB9
          have hKX8 : KepX (fun k => k = NB) wL w8 := KX5.trans (KepX.below hb58)
          have hKX9 : KepX (fun k => k = NB) wL w9 := hKX8.rowB hg9 (fun b e => .inr (by rw [hG]; exact (owns_block Hh8.out e).1))
          have Hown9 : Hid (w9.ownsRow G 83 16 (.slice a9 (k + 1) c9) (k + 1) (PCs ((l.take (k + 1)).map F) (ys ++ [y]))) := Lib.hid (by
            rw [take_snoc14 Hx.out, List.map_append, List.map_cons, List.map_nil, PCs_snoc _ _ _ _ (by rw [hys, List.length_map, List.length_take]; have := Hnc.out; omega), HVS.out]
            exact hown9)
          have Hrob9 : Hid (∀ (j : Nat) (p : S14.P) (y' : Lay), ((l.take (k + 1)).map F)[j]? = some p → (ys ++ [y])[j]? = some y' → PRobX (XNew w.heap.size NB (.slice a9 (k + 1) c9)) p y' w9) := Lib.hid (fun j p y' h1 h2 => by
            have h8 : PRobX (XNew w.heap.size NB (.slice a k c)) p y' w8 := by
              rw [take_snoc14 Hx.out, List.map_append, List.map_cons, List.map_nil] at h1
              have hlk : ((l.take k).map F).length = k := by rw [List.length_map, List.length_take]; have := Hnc.out; omega
              rcases Nat.lt_trichotomy j k with hj | hj | hj
              · rw [List.getElem?_append_left (by omega)] at h1 h2
                exact (Hrob5.out j p y' h1 h2).kep (KepX.below hb58)
              · subst hj
                rw [List.getElem?_append_right (by omega), hlk, Nat.sub_self] at h1
                rw [List.getElem?_append_right (by omega), hys, Nat.sub_self] at h2
                simp only [List.getElem?_cons_zero, Option.some.injEq] at h1 h2
                subst h1; subst h2
                refine HY8.out.toX (fun b _ hb => ⟨Nat.zero_le _, ?_⟩)
                rcases hb with rfl | rfl | hb
                · omega
                · omega
                · have := (Hown5.out.lt b hb).2
                  omega
              · rw [List.getElem?_append_right (by omega), List.getElem?_eq_none (by simp; omega)] at h1
                cases h1
            exact h8.append hg9 (fun b e => .inr (.inr e)) (fun b hb hx => by
              rcases hx with h | h | h
              · exact .inl h
              · exact .inr (.inl h)
              · rcases hat9 with e | e
                · exact .inr (.inr (e ▸ h))
                · rw [e] at h; cases h; omega))
          have hz9 := hB59.size
          clear hown9 hg9 hat9 hneN hneQ hKX8 HY8 Hrob5 Hown5 Hh8 Hr8
          refine ⟨⟨hB59, kQ9.cell 0, kQ9.cell 1, kQ9.cell 2, kQ9.cell 3, kQ9.cell 4, kQ9.cell 5, k09.cell 1, trivial⟩, ?_⟩
          simp only [Act.put, List.setIfInBounds_toArray, List.set_cons_zero, List.set_cons_succ]
          refine wpSeq_done (hF.out _ _ (fun K hK => ?_))
          clear hF hY
          have f1 := k09.cell 1
          have f1f := k09.free 1
          have EB' := k09.set 1 (.slice a9 (k + 1) c9)
          simp only [List.set_cons_zero, List.set_cons_succ, List.getElem?_cons_zero, List.getElem?_cons_succ] at f1 EB'
          go_wp2_with fail
          refine OnlyK.mk (hK.out _ _ ?_)
          clear hK
          have hgs := grown_set14 w9 NB 1 (.slice a9 (k + 1) c9)
          have hKX' := hKX9.trans (KepX.row hgs (fun b e => .inl (Option.some.inj e).symm))
          have Hown' := Lib.hid (owns_keep Hown9.out hgs hlN)
          have Hrob' := Lib.hid (show ∀ (j : Nat) (p : S14.P) (y' : Lay), ((l.take (k + 1)).map F)[j]? = some p → (ys ++ [y])[j]? = some y' → PRobX (XNew w.heap.size NB (.slice a9 (k + 1) c9)) p y' (w9.setCell ⟨NB, 1, none⟩ (.slice a9 (k + 1) c9)) from fun j p y' h1 h2 => (Hrob9.out j p y' h1 h2).kep (KepX.row hgs (fun b e => .inl (.inr (.inl (Option.some.inj e).symm)))))
          generalize w9.setCell ⟨NB, 1, none⟩ (.slice a9 (k + 1) c9) = w10 at *
          clear Hown9 Hrob9 hgs f1 f1f hKX9 k09 kQ9
          go_wp2
          go_roundw
          case rel => exact ⟨k + 1, a9, c9, ys ++ [y], by omega, by simp, by rw [List.length_append, hys]; rfl, Hown', EB', hKX', Hrob'⟩
          case measure => simp [intOf]; omega
        by_cases k3 : x.kind = 3
        · have hof : OfV x = .iface 118 (.agg #[.int .i64 x.kind, .int .i64 x.bits, .int .i64 x.limit, .int .i64 x.rate, .int .i64 x.first, .int .i64 x.second]) := by
            unfold OfV CV Cells14; simp only [k3]; rfl
          have hX3 : ∀ W, Calls Tryz.prog 229 #[.agg #[.int .i64 x.kind, .int .i64 x.bits, .int .i64 x.limit, .int .i64 x.rate, .int .i64 x.first, .int .i64 x.second]] W fun e w' => ∃ y, e = .returned (PV (F x) y) ∧ PRob 0 W.heap.size (F x) y w' ∧ Below W.heap.size W w' := fun W => by
            have := HX0.out W
            simp only [k3] at this ⊢
            exact this
          have HX := Lib.hid hX3
          have hen := enters_of Tryz.func229 (by kernel_rfl) rfl
          have hme := methFresh_matched (.agg #[.int .i64 x.kind, .int .i64 x.bits, .int .i64 x.limit, .int .i64 x.rate, .int .i64 x.first, .int .i64 x.second])
          have hah := aheadFresh_matched (.agg #[.int .i64 x.kind, .int .i64 x.bits, .int .i64 x.limit, .int .i64 x.rate, .int .i64 x.first, .int .i64 x.second])
          clear k3 hX3 HX0
          go_wp2_with fail
          refine wp_region_seq 7 2 [(true, [true, true, true]), (false, [false, false, false, true]), (false, [false, false, false, false, true]), (false, [false, false, false, false, false, true]), (false, [false, false, false, false, false, false, true])] _ _ (fun K => Below G W5 K ∧ Cells K [(⟨Q, 0, none⟩, .int .i64 x.kind), (⟨Q, 1, none⟩, .int .i64 x.bits), (⟨Q, 2, none⟩, .int .i64 x.limit), (⟨Q, 3, none⟩, .int .i64 x.rate), (⟨Q, 4, none⟩, .int .i64 x.first), (⟨Q, 5, none⟩, .int .i64 x.second), (⟨NB, 1, none⟩, .slice a k c)]) (by kernel_rfl) (List.take_append_drop 7 _).symm (by kernel_rfl) (by kernel_rfl) (by kernel_rfl) (by kernel_rfl) (⟨((Below.refl _ _).drew).mono hz5, hCS⟩) (fun Y Q4 F4 hY hF => ?_)
          simp only [phased, List.flatMap_cons, List.flatMap_nil, List.take_succ_cons, List.take_zero, List.drop_succ_cons, List.drop_zero, sel_true, sel_false, sel_nil, List.map_cons, List.map_nil, List.cons_append, List.nil_append, List.append_nil]
          repeat
            apply wpSeq_read (by first | rfl | (rw [hY]; rfl))
            · intro w2 hS2
              (try simp only [Keeps, Cells] at hS2)
              (try simp only [HasC, Cells] at hS2)
              go_simp
              with_reducible rfl
            simp only [Act.put, List.setIfInBounds_toArray, List.set_cons_zero, List.set_cons_succ]
          apply wpSeq_call (by first | rfl | (rw [hY]; rfl))
          · go_simp
            with_reducible exact ⟨rfl, rfl⟩
          refine (HO.out x _).mono ?_
          rintro e w6 ⟨rfl, hb6⟩
          have hb56 : Below W5.heap.size W5 w6 := below_trans ((Below.refl _ _).drew) hb6
          have hcs6 : Cells w6 [(⟨Q, 0, none⟩, .int .i64 x.kind), (⟨Q, 1, none⟩, .int .i64 x.bits), (⟨Q, 2, none⟩, .int .i64 x.limit), (⟨Q, 3, none⟩, .int .i64 x.rate), (⟨Q, 4, none⟩, .int .i64 x.first), (⟨Q, 5, none⟩, .int .i64 x.second), (⟨NB, 1, none⟩, .slice a k c)] := Cells.step hb56 hCS
          refine ⟨_, rfl, ⟨hb56.mono hz5, hcs6⟩, ?_⟩
          simp only [Act.put, List.setIfInBounds_toArray, List.set_cons_zero, List.set_cons_succ]
          rw [hof]
          apply wpSeq_call (by first | rfl | (rw [hY]; rfl))
          · go_simp
            with_reducible exact ⟨rfl, rfl⟩
          refine (HX.out w6).mono ?_
          rintro e w7 ⟨y, rfl, hY7, hb7⟩
          have hcs7 : Cells w7 [(⟨Q, 0, none⟩, .int .i64 x.kind), (⟨Q, 1, none⟩, .int .i64 x.bits), (⟨Q, 2, none⟩, .int .i64 x.limit), (⟨Q, 3, none⟩, .int .i64 x.rate), (⟨Q, 4, none⟩, .int .i64 x.first), (⟨Q, 5, none⟩, .int .i64 x.second), (⟨NB, 1, none⟩, .slice a k c)] := Cells.step hb7 hcs6
          have hb57 : Below W5.heap.size W5 w7 := below_trans hb56 hb7
          refine ⟨_, rfl, ⟨hb57.mono hz5, hcs7⟩, ?_⟩
          simp only [Act.put, List.setIfInBounds_toArray, List.set_cons_zero, List.set_cons_succ]
          have hb8 : Below w7.heap.size w7 (w7.alloc (.cells (PVals (F x) y).toArray 83)) := (Below.refl _ _).alloc (Nat.le_refl _) _
          have hb58 := below_trans hb57 hb8
          have hcs8 := Cells.step hb8 hcs7
          have Hh8 := Lib.hid (owns_step (B := 0) Hown5.out hb58)
          have Hr8 : Hid (Rd (w7.alloc (.cells (PVals (F x) y).toArray 83)) (some ⟨w7.heap.size, 0, none⟩) (PVals (F x) y)) := Lib.hid (fun _ => ⟨_, 0, rfl, (Blk.new w7 (PVals (F x) y) 83).cells⟩)
          have k08 := k05.step hb58
          have kQ8 := kQ.step hb58
          have hz8 : G ≤ (w7.alloc (.cells (PVals (F x) y).toArray 83)).heap.size := Nat.le_trans hz5 hb58.size
          have hz67 : w6.heap.size ≤ w7.heap.size := hb7.size
          have hz56 : W5.heap.size ≤ w6.heap.size := hb56.size
          have HY8 : Hid (PRob 0 w6.heap.size (F x) y (w7.alloc (.cells (PVals (F x) y).toArray 83))) := Lib.hid (hY7.kept (Kept.below hb8))
          unfold PV
          obtain ⟨v0, v1, v2, v3, v4, v5, v6, v7, v8, v9, v10, v11, v12, v13, v14, v15, hVS⟩ := PVals_16 (F x) y
          rw [hVS] at hb8 hb58 hcs8 Hh8 Hr8 k08 kQ8 hz8 HY8 ⊢
          have HVS := Lib.hid hVS
          clear hVS hY7
          refine wpSeq_value (by first | rfl | (rw [hY]; rfl)) (by go_simp; first | with_reducible exact ⟨rfl, rfl⟩ | with_reducible rfl) ((show Below G W5 (w7.alloc (.cells #[v0, v1, v2, v3, v4, v5, v6, v7, v8, v9, v10, v11, v12, v13, v14, v15] 83)) ∧ Cells (w7.alloc (.cells #[v0, v1, v2, v3, v4, v5, v6, v7, v8, v9, v10, v11, v12, v13, v14, v15] 83)) [(⟨Q, 0, none⟩, .int .i64 x.kind), (⟨Q, 1, none⟩, .int .i64 x.bits), (⟨Q, 2, none⟩, .int .i64 x.limit), (⟨Q, 3, none⟩, .int .i64 x.rate), (⟨Q, 4, none⟩, .int .i64 x.first), (⟨Q, 5, none⟩, .int .i64 x.second), (⟨NB, 1, none⟩, .slice a k c)] from ⟨hb58.mono hz5, hcs8⟩)) ?_
          simp only [Act.put, List.setIfInBounds_toArray, List.set_cons_zero, List.set_cons_succ]
          generalize w7.alloc (.cells #[v0, v1, v2, v3, v4, v5, v6, v7, v8, v9, v10, v11, v12, v13, v14, v15] 83) = w8 at *
          refine wpSeq_append_at14 (.tmp 25) (.tmp 29) 23 83 16 240 _ G elems_parts (.slice a k c) k (PCs ((l.take k).map F) ys) ⟨w7.heap.size, 0, none⟩ 1 1 [v0, v1, v2, v3, v4, v5, v6, v7, v8, v9, v10, v11, v12, v13, v14, v15] (by first | rfl | (rw [hY]; rfl)) rfl rfl rfl rfl (by simp) (HVS.out ▸ PVals_one (F x) y) (by unfold maxLen; omega) (by omega) Hh8.out Hr8.out hz8 ?_
          intro a9 c9 w9 hown9 hg9 hat9
          have hneN := own_apart14 Hh8.out k08 (by decide)
          have hneQ := own_apart14 Hh8.out kQ8 (by decide)
          have k09 := k08.keptRow hg9 (Ne.symm hneN)
          have kQ9 := kQ8.keptRow hg9 (Ne.symm hneQ)
          have hB9 : Below G w8 w9 := Below.grown (Below.refl _ _) hg9 hz8 (fun r e => (owns_block Hh8.out e).1)
          have hB59 : Below G W5 w9 := (hb58.mono hz5).trans hB9
          have hKX8 : KepX (fun k => k = NB) wL w8 := KX5.trans (KepX.below hb58)
          have hKX9 : KepX (fun k => k = NB) wL w9 := hKX8.rowB hg9 (fun b e => .inr (by rw [hG]; exact (owns_block Hh8.out e).1))
          have Hown9 : Hid (w9.ownsRow G 83 16 (.slice a9 (k + 1) c9) (k + 1) (PCs ((l.take (k + 1)).map F) (ys ++ [y]))) := Lib.hid (by
            rw [take_snoc14 Hx.out, List.map_append, List.map_cons, List.map_nil, PCs_snoc _ _ _ _ (by rw [hys, List.length_map, List.length_take]; have := Hnc.out; omega), HVS.out]
            exact hown9)
          have Hrob9 : Hid (∀ (j : Nat) (p : S14.P) (y' : Lay), ((l.take (k + 1)).map F)[j]? = some p → (ys ++ [y])[j]? = some y' → PRobX (XNew w.heap.size NB (.slice a9 (k + 1) c9)) p y' w9) := Lib.hid (fun j p y' h1 h2 => by
            have h8 : PRobX (XNew w.heap.size NB (.slice a k c)) p y' w8 := by
              rw [take_snoc14 Hx.out, List.map_append, List.map_cons, List.map_nil] at h1
              have hlk : ((l.take k).map F).length = k := by rw [List.length_map, List.length_take]; have := Hnc.out; omega
              rcases Nat.lt_trichotomy j k with hj | hj | hj
              · rw [List.getElem?_append_left (by omega)] at h1 h2
                exact (Hrob5.out j p y' h1 h2).kep (KepX.below hb58)
              · subst hj
                rw [List.getElem?_append_right (by omega), hlk, Nat.sub_self] at h1
                rw [List.getElem?_append_right (by omega), hys, Nat.sub_self] at h2
                simp only [List.getElem?_cons_zero, Option.some.injEq] at h1 h2
                subst h1; subst h2
                refine HY8.out.toX (fun b _ hb => ⟨Nat.zero_le _, ?_⟩)
                rcases hb with rfl | rfl | hb
                · omega
                · omega
                · have := (Hown5.out.lt b hb).2
                  omega
              · rw [List.getElem?_append_right (by omega), List.getElem?_eq_none (by simp; omega)] at h1
                cases h1
            exact h8.append hg9 (fun b e => .inr (.inr e)) (fun b hb hx => by
              rcases hx with h | h | h
              · exact .inl h
              · exact .inr (.inl h)
              · rcases hat9 with e | e
                · exact .inr (.inr (e ▸ h))
                · rw [e] at h; cases h; omega))
          have hz9 := hB59.size
          clear hown9 hg9 hat9 hneN hneQ hKX8 HY8 Hrob5 Hown5 Hh8 Hr8
          refine ⟨⟨hB59, kQ9.cell 0, kQ9.cell 1, kQ9.cell 2, kQ9.cell 3, kQ9.cell 4, kQ9.cell 5, k09.cell 1, trivial⟩, ?_⟩
          simp only [Act.put, List.setIfInBounds_toArray, List.set_cons_zero, List.set_cons_succ]
          refine wpSeq_done (hF.out _ _ (fun K hK => ?_))
          clear hF hY
          have f1 := k09.cell 1
          have f1f := k09.free 1
          have EB' := k09.set 1 (.slice a9 (k + 1) c9)
          simp only [List.set_cons_zero, List.set_cons_succ, List.getElem?_cons_zero, List.getElem?_cons_succ] at f1 EB'
          go_wp2_with fail
          refine OnlyK.mk (hK.out _ _ ?_)
          clear hK
          have hgs := grown_set14 w9 NB 1 (.slice a9 (k + 1) c9)
          have hKX' := hKX9.trans (KepX.row hgs (fun b e => .inl (Option.some.inj e).symm))
          have Hown' := Lib.hid (owns_keep Hown9.out hgs hlN)
          have Hrob' := Lib.hid (show ∀ (j : Nat) (p : S14.P) (y' : Lay), ((l.take (k + 1)).map F)[j]? = some p → (ys ++ [y])[j]? = some y' → PRobX (XNew w.heap.size NB (.slice a9 (k + 1) c9)) p y' (w9.setCell ⟨NB, 1, none⟩ (.slice a9 (k + 1) c9)) from fun j p y' h1 h2 => (Hrob9.out j p y' h1 h2).kep (KepX.row hgs (fun b e => .inl (.inr (.inl (Option.some.inj e).symm)))))
          generalize w9.setCell ⟨NB, 1, none⟩ (.slice a9 (k + 1) c9) = w10 at *
          clear Hown9 Hrob9 hgs f1 f1f hKX9 k09 kQ9
          go_wp2
          go_roundw
          case rel => exact ⟨k + 1, a9, c9, ys ++ [y], by omega, by simp, by rw [List.length_append, hys]; rfl, Hown', EB', hKX', Hrob'⟩
          case measure => simp [intOf]; omega
        by_cases k4 : x.kind = 4
        · have hof : OfV x = .iface 119 (.agg #[.int .i64 x.kind, .int .i64 x.bits, .int .i64 x.limit, .int .i64 x.rate, .int .i64 x.first, .int .i64 x.second]) := by
            unfold OfV CV Cells14; simp only [k4]; rfl
          have hX3 : ∀ W, Calls Tryz.prog 256 #[.agg #[.int .i64 x.kind, .int .i64 x.bits, .int .i64 x.limit, .int .i64 x.rate, .int .i64 x.first, .int .i64 x.second]] W fun e w' => ∃ y, e = .returned (PV (F x) y) ∧ PRob 0 W.heap.size (F x) y w' ∧ Below W.heap.size W w' := fun W => by
            have := HX0.out W
            simp only [k4] at this ⊢
            exact this
          have HX := Lib.hid hX3
          have hen := enters_of Tryz.func256 (by kernel_rfl) rfl
          have hme := methFresh_average (.agg #[.int .i64 x.kind, .int .i64 x.bits, .int .i64 x.limit, .int .i64 x.rate, .int .i64 x.first, .int .i64 x.second])
          have hah := aheadFresh_average (.agg #[.int .i64 x.kind, .int .i64 x.bits, .int .i64 x.limit, .int .i64 x.rate, .int .i64 x.first, .int .i64 x.second])
          clear k4 hX3 HX0
          go_wp2_with fail
          refine wp_region_seq 7 2 [(true, [true, true, true]), (false, [false, false, false, true]), (false, [false, false, false, false, true]), (false, [false, false, false, false, false, true]), (false, [false, false, false, false, false, false, true])] _ _ (fun K => Below G W5 K ∧ Cells K [(⟨Q, 0, none⟩, .int .i64 x.kind), (⟨Q, 1, none⟩, .int .i64 x.bits), (⟨Q, 2, none⟩, .int .i64 x.limit), (⟨Q, 3, none⟩, .int .i64 x.rate), (⟨Q, 4, none⟩, .int .i64 x.first), (⟨Q, 5, none⟩, .int .i64 x.second), (⟨NB, 1, none⟩, .slice a k c)]) (by kernel_rfl) (List.take_append_drop 7 _).symm (by kernel_rfl) (by kernel_rfl) (by kernel_rfl) (by kernel_rfl) (⟨((Below.refl _ _).drew).mono hz5, hCS⟩) (fun Y Q4 F4 hY hF => ?_)
          simp only [phased, List.flatMap_cons, List.flatMap_nil, List.take_succ_cons, List.take_zero, List.drop_succ_cons, List.drop_zero, sel_true, sel_false, sel_nil, List.map_cons, List.map_nil, List.cons_append, List.nil_append, List.append_nil]
          repeat
            apply wpSeq_read (by first | rfl | (rw [hY]; rfl))
            · intro w2 hS2
              (try simp only [Keeps, Cells] at hS2)
              (try simp only [HasC, Cells] at hS2)
              go_simp
              with_reducible rfl
            simp only [Act.put, List.setIfInBounds_toArray, List.set_cons_zero, List.set_cons_succ]
          apply wpSeq_call (by first | rfl | (rw [hY]; rfl))
          · go_simp
            with_reducible exact ⟨rfl, rfl⟩
          refine (HO.out x _).mono ?_
          rintro e w6 ⟨rfl, hb6⟩
          have hb56 : Below W5.heap.size W5 w6 := below_trans ((Below.refl _ _).drew) hb6
          have hcs6 : Cells w6 [(⟨Q, 0, none⟩, .int .i64 x.kind), (⟨Q, 1, none⟩, .int .i64 x.bits), (⟨Q, 2, none⟩, .int .i64 x.limit), (⟨Q, 3, none⟩, .int .i64 x.rate), (⟨Q, 4, none⟩, .int .i64 x.first), (⟨Q, 5, none⟩, .int .i64 x.second), (⟨NB, 1, none⟩, .slice a k c)] := Cells.step hb56 hCS
          refine ⟨_, rfl, ⟨hb56.mono hz5, hcs6⟩, ?_⟩
          simp only [Act.put, List.setIfInBounds_toArray, List.set_cons_zero, List.set_cons_succ]
          rw [hof]
          apply wpSeq_call (by first | rfl | (rw [hY]; rfl))
          · go_simp
            with_reducible exact ⟨rfl, rfl⟩
          refine (HX.out w6).mono ?_
          rintro e w7 ⟨y, rfl, hY7, hb7⟩
          have hcs7 : Cells w7 [(⟨Q, 0, none⟩, .int .i64 x.kind), (⟨Q, 1, none⟩, .int .i64 x.bits), (⟨Q, 2, none⟩, .int .i64 x.limit), (⟨Q, 3, none⟩, .int .i64 x.rate), (⟨Q, 4, none⟩, .int .i64 x.first), (⟨Q, 5, none⟩, .int .i64 x.second), (⟨NB, 1, none⟩, .slice a k c)] := Cells.step hb7 hcs6
          have hb57 : Below W5.heap.size W5 w7 := below_trans hb56 hb7
          refine ⟨_, rfl, ⟨hb57.mono hz5, hcs7⟩, ?_⟩
          simp only [Act.put, List.setIfInBounds_toArray, List.set_cons_zero, List.set_cons_succ]
          have hb8 : Below w7.heap.size w7 (w7.alloc (.cells (PVals (F x) y).toArray 83)) := (Below.refl _ _).alloc (Nat.le_refl _) _
          have hb58 := below_trans hb57 hb8
          have hcs8 := Cells.step hb8 hcs7
          have Hh8 := Lib.hid (owns_step (B := 0) Hown5.out hb58)
          have Hr8 : Hid (Rd (w7.alloc (.cells (PVals (F x) y).toArray 83)) (some ⟨w7.heap.size, 0, none⟩) (PVals (F x) y)) := Lib.hid (fun _ => ⟨_, 0, rfl, (Blk.new w7 (PVals (F x) y) 83).cells⟩)
          have k08 := k05.step hb58
          have kQ8 := kQ.step hb58
          have hz8 : G ≤ (w7.alloc (.cells (PVals (F x) y).toArray 83)).heap.size := Nat.le_trans hz5 hb58.size
          have hz67 : w6.heap.size ≤ w7.heap.size := hb7.size
          have hz56 : W5.heap.size ≤ w6.heap.size := hb56.size
          have HY8 : Hid (PRob 0 w6.heap.size (F x) y (w7.alloc (.cells (PVals (F x) y).toArray 83))) := Lib.hid (hY7.kept (Kept.below hb8))
          unfold PV
          obtain ⟨v0, v1, v2, v3, v4, v5, v6, v7, v8, v9, v10, v11, v12, v13, v14, v15, hVS⟩ := PVals_16 (F x) y
          rw [hVS] at hb8 hb58 hcs8 Hh8 Hr8 k08 kQ8 hz8 HY8 ⊢
          have HVS := Lib.hid hVS
          clear hVS hY7
          refine wpSeq_value (by first | rfl | (rw [hY]; rfl)) (by go_simp; first | with_reducible exact ⟨rfl, rfl⟩ | with_reducible rfl) ((show Below G W5 (w7.alloc (.cells #[v0, v1, v2, v3, v4, v5, v6, v7, v8, v9, v10, v11, v12, v13, v14, v15] 83)) ∧ Cells (w7.alloc (.cells #[v0, v1, v2, v3, v4, v5, v6, v7, v8, v9, v10, v11, v12, v13, v14, v15] 83)) [(⟨Q, 0, none⟩, .int .i64 x.kind), (⟨Q, 1, none⟩, .int .i64 x.bits), (⟨Q, 2, none⟩, .int .i64 x.limit), (⟨Q, 3, none⟩, .int .i64 x.rate), (⟨Q, 4, none⟩, .int .i64 x.first), (⟨Q, 5, none⟩, .int .i64 x.second), (⟨NB, 1, none⟩, .slice a k c)] from ⟨hb58.mono hz5, hcs8⟩)) ?_
          simp only [Act.put, List.setIfInBounds_toArray, List.set_cons_zero, List.set_cons_succ]
          generalize w7.alloc (.cells #[v0, v1, v2, v3, v4, v5, v6, v7, v8, v9, v10, v11, v12, v13, v14, v15] 83) = w8 at *
          refine wpSeq_append_at14 (.tmp 25) (.tmp 29) 23 83 16 240 _ G elems_parts (.slice a k c) k (PCs ((l.take k).map F) ys) ⟨w7.heap.size, 0, none⟩ 1 1 [v0, v1, v2, v3, v4, v5, v6, v7, v8, v9, v10, v11, v12, v13, v14, v15] (by first | rfl | (rw [hY]; rfl)) rfl rfl rfl rfl (by simp) (HVS.out ▸ PVals_one (F x) y) (by unfold maxLen; omega) (by omega) Hh8.out Hr8.out hz8 ?_
          intro a9 c9 w9 hown9 hg9 hat9
          have hneN := own_apart14 Hh8.out k08 (by decide)
          have hneQ := own_apart14 Hh8.out kQ8 (by decide)
          have k09 := k08.keptRow hg9 (Ne.symm hneN)
          have kQ9 := kQ8.keptRow hg9 (Ne.symm hneQ)
          have hB9 : Below G w8 w9 := Below.grown (Below.refl _ _) hg9 hz8 (fun r e => (owns_block Hh8.out e).1)
          have hB59 : Below G W5 w9 := (hb58.mono hz5).trans hB9
          have hKX8 : KepX (fun k => k = NB) wL w8 := KX5.trans (KepX.below hb58)
          have hKX9 : KepX (fun k => k = NB) wL w9 := hKX8.rowB hg9 (fun b e => .inr (by rw [hG]; exact (owns_block Hh8.out e).1))
          have Hown9 : Hid (w9.ownsRow G 83 16 (.slice a9 (k + 1) c9) (k + 1) (PCs ((l.take (k + 1)).map F) (ys ++ [y]))) := Lib.hid (by
            rw [take_snoc14 Hx.out, List.map_append, List.map_cons, List.map_nil, PCs_snoc _ _ _ _ (by rw [hys, List.length_map, List.length_take]; have := Hnc.out; omega), HVS.out]
            exact hown9)
          have Hrob9 : Hid (∀ (j : Nat) (p : S14.P) (y' : Lay), ((l.take (k + 1)).map F)[j]? = some p → (ys ++ [y])[j]? = some y' → PRobX (XNew w.heap.size NB (.slice a9 (k + 1) c9)) p y' w9) := Lib.hid (fun j p y' h1 h2 => by
            have h8 : PRobX (XNew w.heap.size NB (.slice a k c)) p y' w8 := by
              rw [take_snoc14 Hx.out, List.map_append, List.map_cons, List.map_nil] at h1
              have hlk : ((l.take k).map F).length = k := by rw [List.length_map, List.length_take]; have := Hnc.out; omega
              rcases Nat.lt_trichotomy j k with hj | hj | hj
              · rw [List.getElem?_append_left (by omega)] at h1 h2
                exact (Hrob5.out j p y' h1 h2).kep (KepX.below hb58)
              · subst hj
                rw [List.getElem?_append_right (by omega), hlk, Nat.sub_self] at h1
                rw [List.getElem?_append_right (by omega), hys, Nat.sub_self] at h2
                simp only [List.getElem?_cons_zero, Option.some.injEq] at h1 h2
                subst h1; subst h2
                refine HY8.out.toX (fun b _ hb => ⟨Nat.zero_le _, ?_⟩)
                rcases hb with rfl | rfl | hb
                · omega
                · omega
                · have := (Hown5.out.lt b hb).2
                  omega
              · rw [List.getElem?_append_right (by omega), List.getElem?_eq_none (by simp; omega)] at h1
                cases h1
            exact h8.append hg9 (fun b e => .inr (.inr e)) (fun b hb hx => by
              rcases hx with h | h | h
              · exact .inl h
              · exact .inr (.inl h)
              · rcases hat9 with e | e
                · exact .inr (.inr (e ▸ h))
                · rw [e] at h; cases h; omega))
          have hz9 := hB59.size
          clear hown9 hg9 hat9 hneN hneQ hKX8 HY8 Hrob5 Hown5 Hh8 Hr8
          refine ⟨⟨hB59, kQ9.cell 0, kQ9.cell 1, kQ9.cell 2, kQ9.cell 3, kQ9.cell 4, kQ9.cell 5, k09.cell 1, trivial⟩, ?_⟩
          simp only [Act.put, List.setIfInBounds_toArray, List.set_cons_zero, List.set_cons_succ]
          refine wpSeq_done (hF.out _ _ (fun K hK => ?_))
          clear hF hY
          have f1 := k09.cell 1
          have f1f := k09.free 1
          have EB' := k09.set 1 (.slice a9 (k + 1) c9)
          simp only [List.set_cons_zero, List.set_cons_succ, List.getElem?_cons_zero, List.getElem?_cons_succ] at f1 EB'
          go_wp2_with fail
          refine OnlyK.mk (hK.out _ _ ?_)
          clear hK
          have hgs := grown_set14 w9 NB 1 (.slice a9 (k + 1) c9)
          have hKX' := hKX9.trans (KepX.row hgs (fun b e => .inl (Option.some.inj e).symm))
          have Hown' := Lib.hid (owns_keep Hown9.out hgs hlN)
          have Hrob' := Lib.hid (show ∀ (j : Nat) (p : S14.P) (y' : Lay), ((l.take (k + 1)).map F)[j]? = some p → (ys ++ [y])[j]? = some y' → PRobX (XNew w.heap.size NB (.slice a9 (k + 1) c9)) p y' (w9.setCell ⟨NB, 1, none⟩ (.slice a9 (k + 1) c9)) from fun j p y' h1 h2 => (Hrob9.out j p y' h1 h2).kep (KepX.row hgs (fun b e => .inl (.inr (.inl (Option.some.inj e).symm)))))
          generalize w9.setCell ⟨NB, 1, none⟩ (.slice a9 (k + 1) c9) = w10 at *
          clear Hown9 Hrob9 hgs f1 f1f hKX9 k09 kQ9
          go_wp2
          go_roundw
          case rel => exact ⟨k + 1, a9, c9, ys ++ [y], by omega, by simp, by rw [List.length_append, hys]; rfl, Hown', EB', hKX', Hrob'⟩
          case measure => simp [intOf]; omega
        by_cases k5 : x.kind = 5
        · have hof : OfV x = .iface 120 (.agg #[.int .i64 x.kind, .int .i64 x.bits, .int .i64 x.limit, .int .i64 x.rate, .int .i64 x.first, .int .i64 x.second]) := by
            unfold OfV CV Cells14; simp only [k5]; rfl
          have hX3 : ∀ W, Calls Tryz.prog 263 #[.agg #[.int .i64 x.kind, .int .i64 x.bits, .int .i64 x.limit, .int .i64 x.rate, .int .i64 x.first, .int .i64 x.second]] W fun e w' => ∃ y, e = .returned (PV (F x) y) ∧ PRob 0 W.heap.size (F x) y w' ∧ Below W.heap.size W w' := fun W => by
            have := HX0.out W
            simp only [k5] at this ⊢
            exact this
          have HX := Lib.hid hX3
          have hen := enters_of Tryz.func263 (by kernel_rfl) rfl
          have hme := methFresh_mixed (.agg #[.int .i64 x.kind, .int .i64 x.bits, .int .i64 x.limit, .int .i64 x.rate, .int .i64 x.first, .int .i64 x.second])
          have hah := aheadFresh_mixed (.agg #[.int .i64 x.kind, .int .i64 x.bits, .int .i64 x.limit, .int .i64 x.rate, .int .i64 x.first, .int .i64 x.second])
          clear k5 hX3 HX0
          go_wp2_with fail
          refine wp_region_seq 7 2 [(true, [true, true, true]), (false, [false, false, false, true]), (false, [false, false, false, false, true]), (false, [false, false, false, false, false, true]), (false, [false, false, false, false, false, false, true])] _ _ (fun K => Below G W5 K ∧ Cells K [(⟨Q, 0, none⟩, .int .i64 x.kind), (⟨Q, 1, none⟩, .int .i64 x.bits), (⟨Q, 2, none⟩, .int .i64 x.limit), (⟨Q, 3, none⟩, .int .i64 x.rate), (⟨Q, 4, none⟩, .int .i64 x.first), (⟨Q, 5, none⟩, .int .i64 x.second), (⟨NB, 1, none⟩, .slice a k c)]) (by kernel_rfl) (List.take_append_drop 7 _).symm (by kernel_rfl) (by kernel_rfl) (by kernel_rfl) (by kernel_rfl) (⟨((Below.refl _ _).drew).mono hz5, hCS⟩) (fun Y Q4 F4 hY hF => ?_)
          simp only [phased, List.flatMap_cons, List.flatMap_nil, List.take_succ_cons, List.take_zero, List.drop_succ_cons, List.drop_zero, sel_true, sel_false, sel_nil, List.map_cons, List.map_nil, List.cons_append, List.nil_append, List.append_nil]
          repeat
            apply wpSeq_read (by first | rfl | (rw [hY]; rfl))
            · intro w2 hS2
              (try simp only [Keeps, Cells] at hS2)
              (try simp only [HasC, Cells] at hS2)
              go_simp
              with_reducible rfl
            simp only [Act.put, List.setIfInBounds_toArray, List.set_cons_zero, List.set_cons_succ]
          apply wpSeq_call (by first | rfl | (rw [hY]; rfl))
          · go_simp
            with_reducible exact ⟨rfl, rfl⟩
          refine (HO.out x _).mono ?_
          rintro e w6 ⟨rfl, hb6⟩
          have hb56 : Below W5.heap.size W5 w6 := below_trans ((Below.refl _ _).drew) hb6
          have hcs6 : Cells w6 [(⟨Q, 0, none⟩, .int .i64 x.kind), (⟨Q, 1, none⟩, .int .i64 x.bits), (⟨Q, 2, none⟩, .int .i64 x.limit), (⟨Q, 3, none⟩, .int .i64 x.rate), (⟨Q, 4, none⟩, .int .i64 x.first), (⟨Q, 5, none⟩, .int .i64 x.second), (⟨NB, 1, none⟩, .slice a k c)] := Cells.step hb56 hCS
          refine ⟨_, rfl, ⟨hb56.mono hz5, hcs6⟩, ?_⟩
          simp only [Act.put, List.setIfInBounds_toArray, List.set_cons_zero, List.set_cons_succ]
          rw [hof]
          apply wpSeq_call (by first | rfl | (rw [hY]; rfl))
          · go_simp
            with_reducible exact ⟨rfl, rfl⟩
          refine (HX.out w6).mono ?_
          rintro e w7 ⟨y, rfl, hY7, hb7⟩
          have hcs7 : Cells w7 [(⟨Q, 0, none⟩, .int .i64 x.kind), (⟨Q, 1, none⟩, .int .i64 x.bits), (⟨Q, 2, none⟩, .int .i64 x.limit), (⟨Q, 3, none⟩, .int .i64 x.rate), (⟨Q, 4, none⟩, .int .i64 x.first), (⟨Q, 5, none⟩, .int .i64 x.second), (⟨NB, 1, none⟩, .slice a k c)] := Cells.step hb7 hcs6
          have hb57 : Below W5.heap.size W5 w7 := below_trans hb56 hb7
          refine ⟨_, rfl, ⟨hb57.mono hz5, hcs7⟩, ?_⟩
          simp only [Act.put, List.setIfInBounds_toArray, List.set_cons_zero, List.set_cons_succ]
          have hb8 : Below w7.heap.size w7 (w7.alloc (.cells (PVals (F x) y).toArray 83)) := (Below.refl _ _).alloc (Nat.le_refl _) _
          have hb58 := below_trans hb57 hb8
          have hcs8 := Cells.step hb8 hcs7
          have Hh8 := Lib.hid (owns_step (B := 0) Hown5.out hb58)
          have Hr8 : Hid (Rd (w7.alloc (.cells (PVals (F x) y).toArray 83)) (some ⟨w7.heap.size, 0, none⟩) (PVals (F x) y)) := Lib.hid (fun _ => ⟨_, 0, rfl, (Blk.new w7 (PVals (F x) y) 83).cells⟩)
          have k08 := k05.step hb58
          have kQ8 := kQ.step hb58
          have hz8 : G ≤ (w7.alloc (.cells (PVals (F x) y).toArray 83)).heap.size := Nat.le_trans hz5 hb58.size
          have hz67 : w6.heap.size ≤ w7.heap.size := hb7.size
          have hz56 : W5.heap.size ≤ w6.heap.size := hb56.size
          have HY8 : Hid (PRob 0 w6.heap.size (F x) y (w7.alloc (.cells (PVals (F x) y).toArray 83))) := Lib.hid (hY7.kept (Kept.below hb8))
          unfold PV
          obtain ⟨v0, v1, v2, v3, v4, v5, v6, v7, v8, v9, v10, v11, v12, v13, v14, v15, hVS⟩ := PVals_16 (F x) y
          rw [hVS] at hb8 hb58 hcs8 Hh8 Hr8 k08 kQ8 hz8 HY8 ⊢
          have HVS := Lib.hid hVS
          clear hVS hY7
          refine wpSeq_value (by first | rfl | (rw [hY]; rfl)) (by go_simp; first | with_reducible exact ⟨rfl, rfl⟩ | with_reducible rfl) ((show Below G W5 (w7.alloc (.cells #[v0, v1, v2, v3, v4, v5, v6, v7, v8, v9, v10, v11, v12, v13, v14, v15] 83)) ∧ Cells (w7.alloc (.cells #[v0, v1, v2, v3, v4, v5, v6, v7, v8, v9, v10, v11, v12, v13, v14, v15] 83)) [(⟨Q, 0, none⟩, .int .i64 x.kind), (⟨Q, 1, none⟩, .int .i64 x.bits), (⟨Q, 2, none⟩, .int .i64 x.limit), (⟨Q, 3, none⟩, .int .i64 x.rate), (⟨Q, 4, none⟩, .int .i64 x.first), (⟨Q, 5, none⟩, .int .i64 x.second), (⟨NB, 1, none⟩, .slice a k c)] from ⟨hb58.mono hz5, hcs8⟩)) ?_
          simp only [Act.put, List.setIfInBounds_toArray, List.set_cons_zero, List.set_cons_succ]
          generalize w7.alloc (.cells #[v0, v1, v2, v3, v4, v5, v6, v7, v8, v9, v10, v11, v12, v13, v14, v15] 83) = w8 at *
          refine wpSeq_append_at14 (.tmp 25) (.tmp 29) 23 83 16 240 _ G elems_parts (.slice a k c) k (PCs ((l.take k).map F) ys) ⟨w7.heap.size, 0, none⟩ 1 1 [v0, v1, v2, v3, v4, v5, v6, v7, v8, v9, v10, v11, v12, v13, v14, v15] (by first | rfl | (rw [hY]; rfl)) rfl rfl rfl rfl (by simp) (HVS.out ▸ PVals_one (F x) y) (by unfold maxLen; omega) (by omega) Hh8.out Hr8.out hz8 ?_
          intro a9 c9 w9 hown9 hg9 hat9
          have hneN := own_apart14 Hh8.out k08 (by decide)
          have hneQ := own_apart14 Hh8.out kQ8 (by decide)
          have k09 := k08.keptRow hg9 (Ne.symm hneN)
          have kQ9 := kQ8.keptRow hg9 (Ne.symm hneQ)
          have hB9 : Below G w8 w9 := Below.grown (Below.refl _ _) hg9 hz8 (fun r e => (owns_block Hh8.out e).1)
          have hB59 : Below G W5 w9 := (hb58.mono hz5).trans hB9
          have hKX8 : KepX (fun k => k = NB) wL w8 := KX5.trans (KepX.below hb58)
          have hKX9 : KepX (fun k => k = NB) wL w9 := hKX8.rowB hg9 (fun b e => .inr (by rw [hG]; exact (owns_block Hh8.out e).1))
          have Hown9 : Hid (w9.ownsRow G 83 16 (.slice a9 (k + 1) c9) (k + 1) (PCs ((l.take (k + 1)).map F) (ys ++ [y]))) := Lib.hid (by
            rw [take_snoc14 Hx.out, List.map_append, List.map_cons, List.map_nil, PCs_snoc _ _ _ _ (by rw [hys, List.length_map, List.length_take]; have := Hnc.out; omega), HVS.out]
            exact hown9)
          have Hrob9 : Hid (∀ (j : Nat) (p : S14.P) (y' : Lay), ((l.take (k + 1)).map F)[j]? = some p → (ys ++ [y])[j]? = some y' → PRobX (XNew w.heap.size NB (.slice a9 (k + 1) c9)) p y' w9) := Lib.hid (fun j p y' h1 h2 => by
            have h8 : PRobX (XNew w.heap.size NB (.slice a k c)) p y' w8 := by
              rw [take_snoc14 Hx.out, List.map_append, List.map_cons, List.map_nil] at h1
              have hlk : ((l.take k).map F).length = k := by rw [List.length_map, List.length_take]; have := Hnc.out; omega
              rcases Nat.lt_trichotomy j k with hj | hj | hj
              · rw [List.getElem?_append_left (by omega)] at h1 h2
                exact (Hrob5.out j p y' h1 h2).kep (KepX.below hb58)
              · subst hj
                rw [List.getElem?_append_right (by omega), hlk, Nat.sub_self] at h1
                rw [List.getElem?_append_right (by omega), hys, Nat.sub_self] at h2
                simp only [List.getElem?_cons_zero, Option.some.injEq] at h1 h2
                subst h1; subst h2
                refine HY8.out.toX (fun b _ hb => ⟨Nat.zero_le _, ?_⟩)
                rcases hb with rfl | rfl | hb
                · omega
                · omega
                · have := (Hown5.out.lt b hb).2
                  omega
              · rw [List.getElem?_append_right (by omega), List.getElem?_eq_none (by simp; omega)] at h1
                cases h1
            exact h8.append hg9 (fun b e => .inr (.inr e)) (fun b hb hx => by
              rcases hx with h | h | h
              · exact .inl h
              · exact .inr (.inl h)
              · rcases hat9 with e | e
                · exact .inr (.inr (e ▸ h))
                · rw [e] at h; cases h; omega))
          have hz9 := hB59.size
          clear hown9 hg9 hat9 hneN hneQ hKX8 HY8 Hrob5 Hown5 Hh8 Hr8
          refine ⟨⟨hB59, kQ9.cell 0, kQ9.cell 1, kQ9.cell 2, kQ9.cell 3, kQ9.cell 4, kQ9.cell 5, k09.cell 1, trivial⟩, ?_⟩
          simp only [Act.put, List.setIfInBounds_toArray, List.set_cons_zero, List.set_cons_succ]
          refine wpSeq_done (hF.out _ _ (fun K hK => ?_))
          clear hF hY
          have f1 := k09.cell 1
          have f1f := k09.free 1
          have EB' := k09.set 1 (.slice a9 (k + 1) c9)
          simp only [List.set_cons_zero, List.set_cons_succ, List.getElem?_cons_zero, List.getElem?_cons_succ] at f1 EB'
          go_wp2_with fail
          refine OnlyK.mk (hK.out _ _ ?_)
          clear hK
          have hgs := grown_set14 w9 NB 1 (.slice a9 (k + 1) c9)
          have hKX' := hKX9.trans (KepX.row hgs (fun b e => .inl (Option.some.inj e).symm))
          have Hown' := Lib.hid (owns_keep Hown9.out hgs hlN)
          have Hrob' := Lib.hid (show ∀ (j : Nat) (p : S14.P) (y' : Lay), ((l.take (k + 1)).map F)[j]? = some p → (ys ++ [y])[j]? = some y' → PRobX (XNew w.heap.size NB (.slice a9 (k + 1) c9)) p y' (w9.setCell ⟨NB, 1, none⟩ (.slice a9 (k + 1) c9)) from fun j p y' h1 h2 => (Hrob9.out j p y' h1 h2).kep (KepX.row hgs (fun b e => .inl (.inr (.inl (Option.some.inj e).symm)))))
          generalize w9.setCell ⟨NB, 1, none⟩ (.slice a9 (k + 1) c9) = w10 at *
          clear Hown9 Hrob9 hgs f1 f1f hKX9 k09 kQ9
          go_wp2
          go_roundw
          case rel => exact ⟨k + 1, a9, c9, ys ++ [y], by omega, by simp, by rw [List.length_append, hys]; rfl, Hown', EB', hKX', Hrob'⟩
          case measure => simp [intOf]; omega
        by_cases k6 : x.kind = 6
        · have hof : OfV x = .iface 121 (.agg #[.int .i64 x.kind, .int .i64 x.bits, .int .i64 x.limit, .int .i64 x.rate, .int .i64 x.first, .int .i64 x.second]) := by
            unfold OfV CV Cells14; simp only [k6]; rfl
          have hX3 : ∀ W, Calls Tryz.prog 284 #[.agg #[.int .i64 x.kind, .int .i64 x.bits, .int .i64 x.limit, .int .i64 x.rate, .int .i64 x.first, .int .i64 x.second]] W fun e w' => ∃ y, e = .returned (PV (F x) y) ∧ PRob 0 W.heap.size (F x) y w' ∧ Below W.heap.size W w' := fun W => by
            have := HX0.out W
            simp only [k6] at this ⊢
            exact this
          have HX := Lib.hid hX3
          have hen := enters_of Tryz.func284 (by kernel_rfl) rfl
          have hme := methFresh_refined (.agg #[.int .i64 x.kind, .int .i64 x.bits, .int .i64 x.limit, .int .i64 x.rate, .int .i64 x.first, .int .i64 x.second])
          have hah := aheadFresh_refined (.agg #[.int .i64 x.kind, .int .i64 x.bits, .int .i64 x.limit, .int .i64 x.rate, .int .i64 x.first, .int .i64 x.second])
          clear k6 hX3 HX0
          go_wp2_with fail
          refine wp_region_seq 7 2 [(true, [true, true, true]), (false, [false, false, false, true]), (false, [false, false, false, false, true]), (false, [false, false, false, false, false, true]), (false, [false, false, false, false, false, false, true])] _ _ (fun K => Below G W5 K ∧ Cells K [(⟨Q, 0, none⟩, .int .i64 x.kind), (⟨Q, 1, none⟩, .int .i64 x.bits), (⟨Q, 2, none⟩, .int .i64 x.limit), (⟨Q, 3, none⟩, .int .i64 x.rate), (⟨Q, 4, none⟩, .int .i64 x.first), (⟨Q, 5, none⟩, .int .i64 x.second), (⟨NB, 1, none⟩, .slice a k c)]) (by kernel_rfl) (List.take_append_drop 7 _).symm (by kernel_rfl) (by kernel_rfl) (by kernel_rfl) (by kernel_rfl) (⟨((Below.refl _ _).drew).mono hz5, hCS⟩) (fun Y Q4 F4 hY hF => ?_)
          simp only [phased, List.flatMap_cons, List.flatMap_nil, List.take_succ_cons, List.take_zero, List.drop_succ_cons, List.drop_zero, sel_true, sel_false, sel_nil, List.map_cons, List.map_nil, List.cons_append, List.nil_append, List.append_nil]
          repeat
            apply wpSeq_read (by first | rfl | (rw [hY]; rfl))
            · intro w2 hS2
              (try simp only [Keeps, Cells] at hS2)
              (try simp only [HasC, Cells] at hS2)
              go_simp
              with_reducible rfl
            simp only [Act.put, List.setIfInBounds_toArray, List.set_cons_zero, List.set_cons_succ]
          apply wpSeq_call (by first | rfl | (rw [hY]; rfl))
          · go_simp
            with_reducible exact ⟨rfl, rfl⟩
          refine (HO.out x _).mono ?_
          rintro e w6 ⟨rfl, hb6⟩
          have hb56 : Below W5.heap.size W5 w6 := below_trans ((Below.refl _ _).drew) hb6
          have hcs6 : Cells w6 [(⟨Q, 0, none⟩, .int .i64 x.kind), (⟨Q, 1, none⟩, .int .i64 x.bits), (⟨Q, 2, none⟩, .int .i64 x.limit), (⟨Q, 3, none⟩, .int .i64 x.rate), (⟨Q, 4, none⟩, .int .i64 x.first), (⟨Q, 5, none⟩, .int .i64 x.second), (⟨NB, 1, none⟩, .slice a k c)] := Cells.step hb56 hCS
          refine ⟨_, rfl, ⟨hb56.mono hz5, hcs6⟩, ?_⟩
          simp only [Act.put, List.setIfInBounds_toArray, List.set_cons_zero, List.set_cons_succ]
          rw [hof]
          apply wpSeq_call (by first | rfl | (rw [hY]; rfl))
          · go_simp
            with_reducible exact ⟨rfl, rfl⟩
          refine (HX.out w6).mono ?_
          rintro e w7 ⟨y, rfl, hY7, hb7⟩
          have hcs7 : Cells w7 [(⟨Q, 0, none⟩, .int .i64 x.kind), (⟨Q, 1, none⟩, .int .i64 x.bits), (⟨Q, 2, none⟩, .int .i64 x.limit), (⟨Q, 3, none⟩, .int .i64 x.rate), (⟨Q, 4, none⟩, .int .i64 x.first), (⟨Q, 5, none⟩, .int .i64 x.second), (⟨NB, 1, none⟩, .slice a k c)] := Cells.step hb7 hcs6
          have hb57 : Below W5.heap.size W5 w7 := below_trans hb56 hb7
          refine ⟨_, rfl, ⟨hb57.mono hz5, hcs7⟩, ?_⟩
          simp only [Act.put, List.setIfInBounds_toArray, List.set_cons_zero, List.set_cons_succ]
          have hb8 : Below w7.heap.size w7 (w7.alloc (.cells (PVals (F x) y).toArray 83)) := (Below.refl _ _).alloc (Nat.le_refl _) _
          have hb58 := below_trans hb57 hb8
          have hcs8 := Cells.step hb8 hcs7
          have Hh8 := Lib.hid (owns_step (B := 0) Hown5.out hb58)
          have Hr8 : Hid (Rd (w7.alloc (.cells (PVals (F x) y).toArray 83)) (some ⟨w7.heap.size, 0, none⟩) (PVals (F x) y)) := Lib.hid (fun _ => ⟨_, 0, rfl, (Blk.new w7 (PVals (F x) y) 83).cells⟩)
          have k08 := k05.step hb58
          have kQ8 := kQ.step hb58
          have hz8 : G ≤ (w7.alloc (.cells (PVals (F x) y).toArray 83)).heap.size := Nat.le_trans hz5 hb58.size
          have hz67 : w6.heap.size ≤ w7.heap.size := hb7.size
          have hz56 : W5.heap.size ≤ w6.heap.size := hb56.size
          have HY8 : Hid (PRob 0 w6.heap.size (F x) y (w7.alloc (.cells (PVals (F x) y).toArray 83))) := Lib.hid (hY7.kept (Kept.below hb8))
          unfold PV
          obtain ⟨v0, v1, v2, v3, v4, v5, v6, v7, v8, v9, v10, v11, v12, v13, v14, v15, hVS⟩ := PVals_16 (F x) y
          rw [hVS] at hb8 hb58 hcs8 Hh8 Hr8 k08 kQ8 hz8 HY8 ⊢
          have HVS := Lib.hid hVS
          clear hVS hY7
          refine wpSeq_value (by first | rfl | (rw [hY]; rfl)) (by go_simp; first | with_reducible exact ⟨rfl, rfl⟩ | with_reducible rfl) ((show Below G W5 (w7.alloc (.cells #[v0, v1, v2, v3, v4, v5, v6, v7, v8, v9, v10, v11, v12, v13, v14, v15] 83)) ∧ Cells (w7.alloc (.cells #[v0, v1, v2, v3, v4, v5, v6, v7, v8, v9, v10, v11, v12, v13, v14, v15] 83)) [(⟨Q, 0, none⟩, .int .i64 x.kind), (⟨Q, 1, none⟩, .int .i64 x.bits), (⟨Q, 2, none⟩, .int .i64 x.limit), (⟨Q, 3, none⟩, .int .i64 x.rate), (⟨Q, 4, none⟩, .int .i64 x.first), (⟨Q, 5, none⟩, .int .i64 x.second), (⟨NB, 1, none⟩, .slice a k c)] from ⟨hb58.mono hz5, hcs8⟩)) ?_
          simp only [Act.put, List.setIfInBounds_toArray, List.set_cons_zero, List.set_cons_succ]
          generalize w7.alloc (.cells #[v0, v1, v2, v3, v4, v5, v6, v7, v8, v9, v10, v11, v12, v13, v14, v15] 83) = w8 at *
          refine wpSeq_append_at14 (.tmp 25) (.tmp 29) 23 83 16 240 _ G elems_parts (.slice a k c) k (PCs ((l.take k).map F) ys) ⟨w7.heap.size, 0, none⟩ 1 1 [v0, v1, v2, v3, v4, v5, v6, v7, v8, v9, v10, v11, v12, v13, v14, v15] (by first | rfl | (rw [hY]; rfl)) rfl rfl rfl rfl (by simp) (HVS.out ▸ PVals_one (F x) y) (by unfold maxLen; omega) (by omega) Hh8.out Hr8.out hz8 ?_
          intro a9 c9 w9 hown9 hg9 hat9
          have hneN := own_apart14 Hh8.out k08 (by decide)
          have hneQ := own_apart14 Hh8.out kQ8 (by decide)
          have k09 := k08.keptRow hg9 (Ne.symm hneN)
          have kQ9 := kQ8.keptRow hg9 (Ne.symm hneQ)
          have hB9 : Below G w8 w9 := Below.grown (Below.refl _ _) hg9 hz8 (fun r e => (owns_block Hh8.out e).1)
          have hB59 : Below G W5 w9 := (hb58.mono hz5).trans hB9
          have hKX8 : KepX (fun k => k = NB) wL w8 := KX5.trans (KepX.below hb58)
          have hKX9 : KepX (fun k => k = NB) wL w9 := hKX8.rowB hg9 (fun b e => .inr (by rw [hG]; exact (owns_block Hh8.out e).1))
          have Hown9 : Hid (w9.ownsRow G 83 16 (.slice a9 (k + 1) c9) (k + 1) (PCs ((l.take (k + 1)).map F) (ys ++ [y]))) := Lib.hid (by
            rw [take_snoc14 Hx.out, List.map_append, List.map_cons, List.map_nil, PCs_snoc _ _ _ _ (by rw [hys, List.length_map, List.length_take]; have := Hnc.out; omega), HVS.out]
            exact hown9)
          have Hrob9 : Hid (∀ (j : Nat) (p : S14.P) (y' : Lay), ((l.take (k + 1)).map F)[j]? = some p → (ys ++ [y])[j]? = some y' → PRobX (XNew w.heap.size NB (.slice a9 (k + 1) c9)) p y' w9) := Lib.hid (fun j p y' h1 h2 => by
            have h8 : PRobX (XNew w.heap.size NB (.slice a k c)) p y' w8 := by
              rw [take_snoc14 Hx.out, List.map_append, List.map_cons, List.map_nil] at h1
              have hlk : ((l.take k).map F).length = k := by rw [List.length_map, List.length_take]; have := Hnc.out; omega
              rcases Nat.lt_trichotomy j k with hj | hj | hj
              · rw [List.getElem?_append_left (by omega)] at h1 h2
                exact (Hrob5.out j p y' h1 h2).kep (KepX.below hb58)
              · subst hj
                rw [List.getElem?_append_right (by omega), hlk, Nat.sub_self] at h1
                rw [List.getElem?_append_right (by omega), hys, Nat.sub_self] at h2
                simp only [List.getElem?_cons_zero, Option.some.injEq] at h1 h2
                subst h1; subst h2
                refine HY8.out.toX (fun b _ hb => ⟨Nat.zero_le _, ?_⟩)
                rcases hb with rfl | rfl | hb
                · omega
                · omega
                · have := (Hown5.out.lt b hb).2
                  omega
              · rw [List.getElem?_append_right (by omega), List.getElem?_eq_none (by simp; omega)] at h1
                cases h1
            exact h8.append hg9 (fun b e => .inr (.inr e)) (fun b hb hx => by
              rcases hx with h | h | h
              · exact .inl h
              · exact .inr (.inl h)
              · rcases hat9 with e | e
                · exact .inr (.inr (e ▸ h))
                · rw [e] at h; cases h; omega))
          have hz9 := hB59.size
          clear hown9 hg9 hat9 hneN hneQ hKX8 HY8 Hrob5 Hown5 Hh8 Hr8
          refine ⟨⟨hB59, kQ9.cell 0, kQ9.cell 1, kQ9.cell 2, kQ9.cell 3, kQ9.cell 4, kQ9.cell 5, k09.cell 1, trivial⟩, ?_⟩
          simp only [Act.put, List.setIfInBounds_toArray, List.set_cons_zero, List.set_cons_succ]
          refine wpSeq_done (hF.out _ _ (fun K hK => ?_))
          clear hF hY
          have f1 := k09.cell 1
          have f1f := k09.free 1
          have EB' := k09.set 1 (.slice a9 (k + 1) c9)
          simp only [List.set_cons_zero, List.set_cons_succ, List.getElem?_cons_zero, List.getElem?_cons_succ] at f1 EB'
          go_wp2_with fail
          refine OnlyK.mk (hK.out _ _ ?_)
          clear hK
          have hgs := grown_set14 w9 NB 1 (.slice a9 (k + 1) c9)
          have hKX' := hKX9.trans (KepX.row hgs (fun b e => .inl (Option.some.inj e).symm))
          have Hown' := Lib.hid (owns_keep Hown9.out hgs hlN)
          have Hrob' := Lib.hid (show ∀ (j : Nat) (p : S14.P) (y' : Lay), ((l.take (k + 1)).map F)[j]? = some p → (ys ++ [y])[j]? = some y' → PRobX (XNew w.heap.size NB (.slice a9 (k + 1) c9)) p y' (w9.setCell ⟨NB, 1, none⟩ (.slice a9 (k + 1) c9)) from fun j p y' h1 h2 => (Hrob9.out j p y' h1 h2).kep (KepX.row hgs (fun b e => .inl (.inr (.inl (Option.some.inj e).symm)))))
          generalize w9.setCell ⟨NB, 1, none⟩ (.slice a9 (k + 1) c9) = w10 at *
          clear Hown9 Hrob9 hgs f1 f1f hKX9 k09 kQ9
          go_wp2
          go_roundw
          case rel => exact ⟨k + 1, a9, c9, ys ++ [y], by omega, by simp, by rw [List.length_append, hys]; rfl, Hown', EB', hKX', Hrob'⟩
          case measure => simp [intOf]; omega
        omega
      · obtain rfl : k = nc := by omega
        obtain ⟨hc1, hc2⟩ : k ≤ c ∧ c ≤ maxLen := by
          obtain ⟨a0, c0, e, h1, h2⟩ := owns_slice hown.out
          simp only [Value.slice.injEq] at e
          omega
        have htk : l.take k = l := List.take_of_length_le (by rw [Hnc.out]; exact Nat.le_refl _)
        have k2r := k2L.kepX hKX (by omega)
        rw [htk] at hown hrob
        have hlm : (l.map F).length = k := by rw [List.length_map]; exact Hnc.out
        have hNI : ∀ W2, KepX (fun k => k = w.heap.size) wr W2 → NIs ⟨l, l.map F, List.replicate 16 0, 1⟩ ⟨some ⟨gC, 0, none⟩, c1, a, c, some ⟨X, 0, none⟩, 16, ys⟩ W2 := fun W2 h2 =>
          { rc := (HrC.out.kepX hKX (fun g o e => by cases e; exact hCN)).kepX h2 (fun g o e => by cases e; omega)
            rp := (Rd.of_owns hown.out).kepX h2 (fun g o e => by
              have := (hown.out.lt g (by rw [e]; rfl)).1
              omega)
            rx := (show Rd wr (some ⟨X, 0, none⟩) (U32s (List.replicate 16 0)) from fun _ => ⟨X, 0, rfl, (kXL.kepX hKX hXn).cells⟩).kepX h2 (fun g o e => by cases e; omega)
            ly := by rw [hys]; exact hlm.symm
            ps := fun j p y h1 h3 => ((hrob.out j p y h1 h3).change (fun b _ hb => .inl hb)).kep h2 |>.is
            xs := fun x hx => by have := List.eq_of_mem_replicate hx; omega
            l1 := ⟨by show l.length ≤ _; rw [Hnc.out]; exact hCc.1, hCc.2⟩
            l2 := ⟨by show (l.map F).length ≤ _; rw [hlm]; exact hc1, hc2⟩
            l3 := ⟨by simp, by simp⟩ }
        have HPo := HOP.out ⟨some ⟨gC, 0, none⟩, c1, a, c, some ⟨X, 0, none⟩, 16, ys⟩ wr (fun k => k = w.heap.size) hBr (fun k e => by omega) hNI (by
          show wr.ownsRow w.heap.size 83 16 (.slice a (l.map F).length c) (l.map F).length (PCs (l.map F) ys)
          rw [hlm]; exact owns_low hown.out hzL) (fun j p y h1 h3 => (hrob.out j p y h1 h3).change (fun b _ hb => by
            rcases hb with h | h
            · exact .inl h
            · refine .inr (.inr ?_)
              have h : (Value.slice a (l.map F).length c).ownBlock = some b := h
              rwa [hlm] at h))
        unfold NV NVals at HPo
        simp only [hlm, Hnc.out, List.length_replicate] at HPo
        have hfar : ∀ b, (Value.slice a k c).ownBlock = some b → G ≤ b := fun b hb => (hown.out.lt b hb).1
        have Hfar := Lib.hid hfar
        clear hfar
        have HPO := Lib.hid HPo
        clear HPo hNI hown hrob htk hKX
        go_wp2_with (first
          | (refine wpList_loadB 26 (.tmp 5) (by rfl) (by rfl) NB (by rfl) [.slice (some ⟨gC, 0, none⟩) k c1, .slice a k c, .slice (some ⟨X, 0, none⟩) 16 16, .int .i64 1] 26 EB _ Tryz.underlying26 rfl info_N ?_))
        refine HPO.out.mono ?_
        rintro e w8 ⟨L', rfl, hN', hb8⟩
        have HN' := Lib.hid hN'
        have k28 := k2r.kepX hb8 (fun hx => by have := Hfar.out _ hx; omega)
        have B8 := hb8.toBelow hBr (fun b hb => by have := Hfar.out _ hb; omega)
        clear hN' k2r hb8 EB hBr
        go_wp2_with (first
          | (refine wpList_storeB 26 (.tmp 2) (.tmp 34) (by rfl) (by rfl) w.heap.size (by rfl) [.slice L'.a1 N'.comps.length L'.c1, .slice L'.a2 N'.parts.length L'.c2, .slice L'.a3 N'.ctxs.length L'.c3, .int .i64 N'.part] (by rfl) _ 26 k28 info_N rfl (by simp [Value.oneCell']) ?_
             intro wM EM gM sM))
        have hL := run_loadVar_mid wM _ 0 _ _ _ EM.cells Tryz.underlying26 rfl info_N
        refine bodyPost_ret (v := .tuple #[.agg #[.slice L'.a1 N'.comps.length L'.c1, .slice L'.a2 N'.parts.length L'.c2, .slice L'.a3 N'.ctxs.length L'.c3, .int .i64 N'.part], .int .i64 0]) ?_ rfl ?_
        · exact results_cell2 (show Tryz.f15.results = #[.cell 2 26, .tmp 3] from rfl) (p := ⟨w.heap.size, 0, none⟩) rfl rfl hL
        · exact ⟨L', rfl, HN'.out wM (KepX.row gM (fun b e => .inl (Option.some.inj e).symm)), B8.trans (rowBelow gM (Nat.le_refl _) B8.size)⟩
  have b0 : Below w2.heap.size w2 w2.drew := (Below.refl _ _).drew
  obtain ⟨u0, hu0⟩ : ∃ v, w2.drew = v := ⟨_, rfl⟩
  rw [hu0] at b0 ⊢
  have hzz : w2.heap.size = u0.heap.size := by rw [← hu0]; rfl
  refine wpPlan_two ?_ (wpPlan_two ?_ ?_)
  · skip
    apply wpPlan_call (by first | rfl | (rw [hY]; rfl))
    · go_simp
      with_reducible exact ⟨rfl, rfl⟩
    refine (HCl.out _ (below_trans B2 b0)).mono ?_
    rintro e u1 ⟨q1, c1, rfl, own1, hbC⟩
    have b1 : Below w2.heap.size w2 u1 := below_trans b0 hbC
    have ownC := Lib.hid own1
    have zC : w2.heap.size ≤ u0.heap.size := b0.size
    have zzC := hbC.size
    clear own1
    refine ⟨_, rfl, b1, ?_⟩
    simp only [Act.put, List.setIfInBounds_toArray, List.set_cons_zero, List.set_cons_succ]
    refine wpPlan_two ?_ ?_
    · skip
      have hmk := mk16 u1
      have b2 : Below w2.heap.size w2 (u1.alloc (.cells (List.replicate 16 (.int .u32 0)).toArray 109)) := b1.alloc b1.size _
      refine wpPlan_value (by first | rfl | (rw [hY]; rfl)) (by go_simp; first | with_reducible exact ⟨rfl, rfl⟩ | with_reducible rfl) (b2) ?_
      simp only [Act.put, List.setIfInBounds_toArray, List.set_cons_zero, List.set_cons_succ]
      obtain ⟨u2, hu2⟩ : ∃ v, u1.alloc (.cells (List.replicate 16 (.int .u32 0)).toArray 109) = v := ⟨_, rfl⟩
      have kX : Blk u2 u1.heap.size (List.replicate 16 (.int .u32 0)) 109 := by rw [← hu2]; exact Blk.new u1 _ _
      have zX : w2.heap.size ≤ u1.heap.size := b1.size
      have lX := kX.lt
      have hbE : Below u1.heap.size u1 u2 := by rw [← hu2]; exact (Below.refl _ _).alloc (Nat.le_refl _) _
      have ownC := Lib.hid (owns_step (B := 0) ownC.out hbE)
      have hszu2 : u2.heap.size = u1.heap.size + 1 := by rw [← hu2]; simp
      try rw [hu2] at b2 ⊢
      repeat
        apply wpPlan_read (by first | rfl | (rw [hY]; rfl))
        · intro w2 hS2
          (try simp only [Keeps, Cells] at hS2)
          (try simp only [HasC, Cells] at hS2)
          go_simp
          with_reducible rfl
        simp only [Act.put, List.setIfInBounds_toArray, List.set_cons_zero, List.set_cons_succ]
      have b3 : Below w2.heap.size w2 (u2.alloc (.cells zN 26)) := b2.alloc b2.size _
      refine wpPlan_value (by first | rfl | (rw [hY]; rfl)) (by go_simp; first | with_reducible exact ⟨rfl, rfl⟩ | with_reducible rfl) (b3) ?_
      simp only [Act.put, List.setIfInBounds_toArray, List.set_cons_zero, List.set_cons_succ]
      obtain ⟨u3, hu3⟩ : ∃ v, u2.alloc (.cells zN 26) = v := ⟨_, rfl⟩
      have kN : Blk u3 u2.heap.size [.slice none 0 0, .slice none 0 0, .slice none 0 0, .int .i64 0] 26 := by rw [← hu3]; exact Blk.new u2 _ _
      have zN1 : w2.heap.size ≤ u2.heap.size := b2.size
      have lN := kN.lt
      have hbE : Below u2.heap.size u2 u3 := by rw [← hu3]; exact (Below.refl _ _).alloc (Nat.le_refl _) _
      have ownC := Lib.hid (owns_step (B := 0) ownC.out hbE)
      have kX := kX.step hbE
      have hszu3 : u3.heap.size = u2.heap.size + 1 := by rw [← hu3]; simp
      try rw [hu3] at b3 ⊢
      refine wpPlan_done (fin q1 c1 _ _ _ b3 (owns_low ownC.out ?_) (by first | exact kX | (rw [hszu2] at kX; exact kX) | (rw [hszu1] at kX; exact kX)) (by first | exact kN | (rw [hszu2] at kN; exact kN) | (rw [hszu1] at kN; exact kN)) ?_ ?_ ?_)
      all_goals first | omega | (simp at *; omega)
    · skip
      have b2 : Below w2.heap.size w2 (u1.alloc (.cells zN 26)) := b1.alloc b1.size _
      refine wpPlan_value (by first | rfl | (rw [hY]; rfl)) (by go_simp; first | with_reducible exact ⟨rfl, rfl⟩ | with_reducible rfl) (b2) ?_
      simp only [Act.put, List.setIfInBounds_toArray, List.set_cons_zero, List.set_cons_succ]
      obtain ⟨u2, hu2⟩ : ∃ v, u1.alloc (.cells zN 26) = v := ⟨_, rfl⟩
      have kN : Blk u2 u1.heap.size [.slice none 0 0, .slice none 0 0, .slice none 0 0, .int .i64 0] 26 := by rw [← hu2]; exact Blk.new u1 _ _
      have zN1 : w2.heap.size ≤ u1.heap.size := b1.size
      have lN := kN.lt
      have hbE : Below u1.heap.size u1 u2 := by rw [← hu2]; exact (Below.refl _ _).alloc (Nat.le_refl _) _
      have ownC := Lib.hid (owns_step (B := 0) ownC.out hbE)
      have hszu2 : u2.heap.size = u1.heap.size + 1 := by rw [← hu2]; simp
      try rw [hu2] at b2 ⊢
      have hmk := mk16 u2
      have b3 : Below w2.heap.size w2 (u2.alloc (.cells (List.replicate 16 (.int .u32 0)).toArray 109)) := b2.alloc b2.size _
      refine wpPlan_value (by first | rfl | (rw [hY]; rfl)) (by go_simp; first | with_reducible exact ⟨rfl, rfl⟩ | with_reducible rfl) (b3) ?_
      simp only [Act.put, List.setIfInBounds_toArray, List.set_cons_zero, List.set_cons_succ]
      obtain ⟨u3, hu3⟩ : ∃ v, u2.alloc (.cells (List.replicate 16 (.int .u32 0)).toArray 109) = v := ⟨_, rfl⟩
      have kX : Blk u3 u2.heap.size (List.replicate 16 (.int .u32 0)) 109 := by rw [← hu3]; exact Blk.new u2 _ _
      have zX : w2.heap.size ≤ u2.heap.size := b2.size
      have lX := kX.lt
      have hbE : Below u2.heap.size u2 u3 := by rw [← hu3]; exact (Below.refl _ _).alloc (Nat.le_refl _) _
      have ownC := Lib.hid (owns_step (B := 0) ownC.out hbE)
      have kN := kN.step hbE
      have hszu3 : u3.heap.size = u2.heap.size + 1 := by rw [← hu3]; simp
      try rw [hu3] at b3 ⊢
      repeat
        apply wpPlan_read (by first | rfl | (rw [hY]; rfl))
        · intro w2 hS2
          (try simp only [Keeps, Cells] at hS2)
          (try simp only [HasC, Cells] at hS2)
          go_simp
          with_reducible rfl
        simp only [Act.put, List.setIfInBounds_toArray, List.set_cons_zero, List.set_cons_succ]
      refine wpPlan_done (fin q1 c1 _ _ _ b3 (owns_low ownC.out ?_) (by first | exact kX | (rw [hszu2] at kX; exact kX) | (rw [hszu1] at kX; exact kX)) (by first | exact kN | (rw [hszu2] at kN; exact kN) | (rw [hszu1] at kN; exact kN)) ?_ ?_ ?_)
      all_goals first | omega | (simp at *; omega)
  · skip
    have hmk := mk16 u0
    have b1 : Below w2.heap.size w2 (u0.alloc (.cells (List.replicate 16 (.int .u32 0)).toArray 109)) := b0.alloc b0.size _
    refine wpPlan_value (by first | rfl | (rw [hY]; rfl)) (by go_simp; first | with_reducible exact ⟨rfl, rfl⟩ | with_reducible rfl) (b1) ?_
    simp only [Act.put, List.setIfInBounds_toArray, List.set_cons_zero, List.set_cons_succ]
    obtain ⟨u1, hu1⟩ : ∃ v, u0.alloc (.cells (List.replicate 16 (.int .u32 0)).toArray 109) = v := ⟨_, rfl⟩
    have kX : Blk u1 u0.heap.size (List.replicate 16 (.int .u32 0)) 109 := by rw [← hu1]; exact Blk.new u0 _ _
    have zX : w2.heap.size ≤ u0.heap.size := b0.size
    have lX := kX.lt
    have hbE : Below u0.heap.size u0 u1 := by rw [← hu1]; exact (Below.refl _ _).alloc (Nat.le_refl _) _
    have hszu1 : u1.heap.size = u0.heap.size + 1 := by rw [← hu1]; simp
    try rw [hu1] at b1 ⊢
    refine wpPlan_two ?_ ?_
    · skip
      apply wpPlan_call (by first | rfl | (rw [hY]; rfl))
      · go_simp
        with_reducible exact ⟨rfl, rfl⟩
      refine (HCl.out _ (below_trans B2 b1)).mono ?_
      rintro e u2 ⟨q1, c1, rfl, own1, hbC⟩
      have b2 : Below w2.heap.size w2 u2 := below_trans b1 hbC
      have ownC := Lib.hid own1
      have zC : w2.heap.size ≤ u1.heap.size := b1.size
      have zzC := hbC.size
      clear own1
      have kX := kX.step hbC
      refine ⟨_, rfl, b2, ?_⟩
      simp only [Act.put, List.setIfInBounds_toArray, List.set_cons_zero, List.set_cons_succ]
      repeat
        apply wpPlan_read (by first | rfl | (rw [hY]; rfl))
        · intro w2 hS2
          (try simp only [Keeps, Cells] at hS2)
          (try simp only [HasC, Cells] at hS2)
          go_simp
          with_reducible rfl
        simp only [Act.put, List.setIfInBounds_toArray, List.set_cons_zero, List.set_cons_succ]
      have b3 : Below w2.heap.size w2 (u2.alloc (.cells zN 26)) := b2.alloc b2.size _
      refine wpPlan_value (by first | rfl | (rw [hY]; rfl)) (by go_simp; first | with_reducible exact ⟨rfl, rfl⟩ | with_reducible rfl) (b3) ?_
      simp only [Act.put, List.setIfInBounds_toArray, List.set_cons_zero, List.set_cons_succ]
      obtain ⟨u3, hu3⟩ : ∃ v, u2.alloc (.cells zN 26) = v := ⟨_, rfl⟩
      have kN : Blk u3 u2.heap.size [.slice none 0 0, .slice none 0 0, .slice none 0 0, .int .i64 0] 26 := by rw [← hu3]; exact Blk.new u2 _ _
      have zN1 : w2.heap.size ≤ u2.heap.size := b2.size
      have lN := kN.lt
      have hbE : Below u2.heap.size u2 u3 := by rw [← hu3]; exact (Below.refl _ _).alloc (Nat.le_refl _) _
      have kX := kX.step hbE
      have ownC := Lib.hid (owns_step (B := 0) ownC.out hbE)
      have hszu3 : u3.heap.size = u2.heap.size + 1 := by rw [← hu3]; simp
      try rw [hu3] at b3 ⊢
      refine wpPlan_done (fin q1 c1 _ _ _ b3 (owns_low ownC.out ?_) (by first | exact kX | (rw [hszu2] at kX; exact kX) | (rw [hszu1] at kX; exact kX)) (by first | exact kN | (rw [hszu2] at kN; exact kN) | (rw [hszu1] at kN; exact kN)) ?_ ?_ ?_)
      all_goals first | omega | (simp at *; omega)
    · skip
      have b2 : Below w2.heap.size w2 (u1.alloc (.cells zN 26)) := b1.alloc b1.size _
      refine wpPlan_value (by first | rfl | (rw [hY]; rfl)) (by go_simp; first | with_reducible exact ⟨rfl, rfl⟩ | with_reducible rfl) (b2) ?_
      simp only [Act.put, List.setIfInBounds_toArray, List.set_cons_zero, List.set_cons_succ]
      obtain ⟨u2, hu2⟩ : ∃ v, u1.alloc (.cells zN 26) = v := ⟨_, rfl⟩
      have kN : Blk u2 u1.heap.size [.slice none 0 0, .slice none 0 0, .slice none 0 0, .int .i64 0] 26 := by rw [← hu2]; exact Blk.new u1 _ _
      have zN1 : w2.heap.size ≤ u1.heap.size := b1.size
      have lN := kN.lt
      have hbE : Below u1.heap.size u1 u2 := by rw [← hu2]; exact (Below.refl _ _).alloc (Nat.le_refl _) _
      have kX := kX.step hbE
      have hszu2 : u2.heap.size = u1.heap.size + 1 := by rw [← hu2]; simp
      try rw [hu2] at b2 ⊢
      apply wpPlan_call (by first | rfl | (rw [hY]; rfl))
      · go_simp
        with_reducible exact ⟨rfl, rfl⟩
      refine (HCl.out _ (below_trans B2 b2)).mono ?_
      rintro e u3 ⟨q1, c1, rfl, own1, hbC⟩
      have b3 : Below w2.heap.size w2 u3 := below_trans b2 hbC
      have ownC := Lib.hid own1
      have zC : w2.heap.size ≤ u2.heap.size := b2.size
      have zzC := hbC.size
      clear own1
      have kX := kX.step hbC
      have kN := kN.step hbC
      refine ⟨_, rfl, b3, ?_⟩
      simp only [Act.put, List.setIfInBounds_toArray, List.set_cons_zero, List.set_cons_succ]
      repeat
        apply wpPlan_read (by first | rfl | (rw [hY]; rfl))
        · intro w2 hS2
          (try simp only [Keeps, Cells] at hS2)
          (try simp only [HasC, Cells] at hS2)
          go_simp
          with_reducible rfl
        simp only [Act.put, List.setIfInBounds_toArray, List.set_cons_zero, List.set_cons_succ]
      refine wpPlan_done (fin q1 c1 _ _ _ b3 (owns_low ownC.out ?_) (by first | exact kX | (rw [hszu2] at kX; exact kX) | (rw [hszu1] at kX; exact kX)) (by first | exact kN | (rw [hszu2] at kN; exact kN) | (rw [hszu1] at kN; exact kN)) ?_ ?_ ?_)
      all_goals first | omega | (simp at *; omega)
  · skip
    have b1 : Below w2.heap.size w2 (u0.alloc (.cells zN 26)) := b0.alloc b0.size _
    refine wpPlan_value (by first | rfl | (rw [hY]; rfl)) (by go_simp; first | with_reducible exact ⟨rfl, rfl⟩ | with_reducible rfl) (b1) ?_
    simp only [Act.put, List.setIfInBounds_toArray, List.set_cons_zero, List.set_cons_succ]
    obtain ⟨u1, hu1⟩ : ∃ v, u0.alloc (.cells zN 26) = v := ⟨_, rfl⟩
    have kN : Blk u1 u0.heap.size [.slice none 0 0, .slice none 0 0, .slice none 0 0, .int .i64 0] 26 := by rw [← hu1]; exact Blk.new u0 _ _
    have zN1 : w2.heap.size ≤ u0.heap.size := b0.size
    have lN := kN.lt
    have hbE : Below u0.heap.size u0 u1 := by rw [← hu1]; exact (Below.refl _ _).alloc (Nat.le_refl _) _
    have hszu1 : u1.heap.size = u0.heap.size + 1 := by rw [← hu1]; simp
    try rw [hu1] at b1 ⊢
    refine wpPlan_two ?_ ?_
    · skip
      apply wpPlan_call (by first | rfl | (rw [hY]; rfl))
      · go_simp
        with_reducible exact ⟨rfl, rfl⟩
      refine (HCl.out _ (below_trans B2 b1)).mono ?_
      rintro e u2 ⟨q1, c1, rfl, own1, hbC⟩
      have b2 : Below w2.heap.size w2 u2 := below_trans b1 hbC
      have ownC := Lib.hid own1
      have zC : w2.heap.size ≤ u1.heap.size := b1.size
      have zzC := hbC.size
      clear own1
      have kN := kN.step hbC
      refine ⟨_, rfl, b2, ?_⟩
      simp only [Act.put, List.setIfInBounds_toArray, List.set_cons_zero, List.set_cons_succ]
      have hmk := mk16 u2
      have b3 : Below w2.heap.size w2 (u2.alloc (.cells (List.replicate 16 (.int .u32 0)).toArray 109)) := b2.alloc b2.size _
      refine wpPlan_value (by first | rfl | (rw [hY]; rfl)) (by go_simp; first | with_reducible exact ⟨rfl, rfl⟩ | with_reducible rfl) (b3) ?_
      simp only [Act.put, List.setIfInBounds_toArray, List.set_cons_zero, List.set_cons_succ]
      obtain ⟨u3, hu3⟩ : ∃ v, u2.alloc (.cells (List.replicate 16 (.int .u32 0)).toArray 109) = v := ⟨_, rfl⟩
      have kX : Blk u3 u2.heap.size (List.replicate 16 (.int .u32 0)) 109 := by rw [← hu3]; exact Blk.new u2 _ _
      have zX : w2.heap.size ≤ u2.heap.size := b2.size
      have lX := kX.lt
      have hbE : Below u2.heap.size u2 u3 := by rw [← hu3]; exact (Below.refl _ _).alloc (Nat.le_refl _) _
      have kN := kN.step hbE
      have ownC := Lib.hid (owns_step (B := 0) ownC.out hbE)
      have hszu3 : u3.heap.size = u2.heap.size + 1 := by rw [← hu3]; simp
      try rw [hu3] at b3 ⊢
      repeat
        apply wpPlan_read (by first | rfl | (rw [hY]; rfl))
        · intro w2 hS2
          (try simp only [Keeps, Cells] at hS2)
          (try simp only [HasC, Cells] at hS2)
          go_simp
          with_reducible rfl
        simp only [Act.put, List.setIfInBounds_toArray, List.set_cons_zero, List.set_cons_succ]
      refine wpPlan_done (fin q1 c1 _ _ _ b3 (owns_low ownC.out ?_) (by first | exact kX | (rw [hszu2] at kX; exact kX) | (rw [hszu1] at kX; exact kX)) (by first | exact kN | (rw [hszu2] at kN; exact kN) | (rw [hszu1] at kN; exact kN)) ?_ ?_ ?_)
      all_goals first | omega | (simp at *; omega)
    · skip
      have hmk := mk16 u1
      have b2 : Below w2.heap.size w2 (u1.alloc (.cells (List.replicate 16 (.int .u32 0)).toArray 109)) := b1.alloc b1.size _
      refine wpPlan_value (by first | rfl | (rw [hY]; rfl)) (by go_simp; first | with_reducible exact ⟨rfl, rfl⟩ | with_reducible rfl) (b2) ?_
      simp only [Act.put, List.setIfInBounds_toArray, List.set_cons_zero, List.set_cons_succ]
      obtain ⟨u2, hu2⟩ : ∃ v, u1.alloc (.cells (List.replicate 16 (.int .u32 0)).toArray 109) = v := ⟨_, rfl⟩
      have kX : Blk u2 u1.heap.size (List.replicate 16 (.int .u32 0)) 109 := by rw [← hu2]; exact Blk.new u1 _ _
      have zX : w2.heap.size ≤ u1.heap.size := b1.size
      have lX := kX.lt
      have hbE : Below u1.heap.size u1 u2 := by rw [← hu2]; exact (Below.refl _ _).alloc (Nat.le_refl _) _
      have kN := kN.step hbE
      have hszu2 : u2.heap.size = u1.heap.size + 1 := by rw [← hu2]; simp
      try rw [hu2] at b2 ⊢
      apply wpPlan_call (by first | rfl | (rw [hY]; rfl))
      · go_simp
        with_reducible exact ⟨rfl, rfl⟩
      refine (HCl.out _ (below_trans B2 b2)).mono ?_
      rintro e u3 ⟨q1, c1, rfl, own1, hbC⟩
      have b3 : Below w2.heap.size w2 u3 := below_trans b2 hbC
      have ownC := Lib.hid own1
      have zC : w2.heap.size ≤ u2.heap.size := b2.size
      have zzC := hbC.size
      clear own1
      have kN := kN.step hbC
      have kX := kX.step hbC
      refine ⟨_, rfl, b3, ?_⟩
      simp only [Act.put, List.setIfInBounds_toArray, List.set_cons_zero, List.set_cons_succ]
      repeat
        apply wpPlan_read (by first | rfl | (rw [hY]; rfl))
        · intro w2 hS2
          (try simp only [Keeps, Cells] at hS2)
          (try simp only [HasC, Cells] at hS2)
          go_simp
          with_reducible rfl
        simp only [Act.put, List.setIfInBounds_toArray, List.set_cons_zero, List.set_cons_succ]
      refine wpPlan_done (fin q1 c1 _ _ _ b3 (owns_low ownC.out ?_) (by first | exact kX | (rw [hszu2] at kX; exact kX) | (rw [hszu1] at kX; exact kX)) (by first | exact kN | (rw [hszu2] at kN; exact kN) | (rw [hszu1] at kN; exact kN)) ?_ ?_ ?_)
      all_goals first | omega | (simp at *; omega)
end Go.Proofs.YtieeogndnhighaaGreat
set_option linter.unusedSimpArgs false
set_option linter.unusedVariables false
set_option linter.unusedSectionVars false
namespace Go.Proofs.YtieeogndnhighaaGreat
open Go.RowKit
theorem openHolds_plain (w : World) (N : S14.N) (hl : N.comps.length ≤ 16) (hk6 : ∀ c ∈ N.comps, 0 ≤ c.kind ∧ c.kind ≤ 6 ∧ c.kind ≠ 2) : OpenHolds w N N := fun L W X hW _ hN _ _ =>
  (opened14_plain N L W (hN W (KepX.refl _ _)) hl hk6).mono fun e w' h => ⟨L, h.1, fun W2 h2 => hN W2 ((KepX.below h.2).trans h2), KepX.below h.2⟩
end Go.Proofs.YtieeogndnhighaaGreat
set_option linter.unusedSimpArgs false
set_option linter.unusedVariables false
set_option linter.unusedSectionVars false
namespace Go.Proofs.YtieeogndnhighaaGreat
open Go.RowKit
def LearnF (c : S14.C) : FuncId :=
  if c.kind = 0 then 172 else if c.kind = 1 then 185 else if c.kind = 2 then 214 else if c.kind = 3 then 230 else if c.kind = 4 then 257 else if c.kind = 5 then 265 else 285
/-- The parts behind a bit: the first k of them. -/
def S14.parts1 (G : Nat → S14.P) (ps : List S14.P) : Nat → List S14.P
  | 0 => ps
  | k + 1 => (S14.parts1 G ps k).set k (G k)
theorem S14.parts1_length (G : Nat → S14.P) (ps : List S14.P) : ∀ k, (S14.parts1 G ps k).length = ps.length
  | 0 => rfl
  | k + 1 => by rw [S14.parts1, List.length_set, S14.parts1_length G ps k]
theorem S14.outs_take (O : Nat → List Int → Int) (k : Nat) : ∀ n, k ≤ n → (S14.outs O n).take k = S14.outs O k
  | 0, h => by obtain rfl : k = 0 := by omega
               rfl
  | n + 1, h => by
    by_cases e : k = n + 1
    · subst e; exact List.take_of_length_le (by rw [S14.outs_length]; exact Nat.le_refl _)
    · rw [S14.outs, List.take_append_of_le_length (by rw [S14.outs_length]; omega)]
      exact S14.outs_take O k n (by omega)
theorem Rd.take14 {w : World} {a : Option Addr} {vals : List Value} (h : Rd w a vals) (k : Nat) : Rd w a (vals.take k) := fun hn => by
  obtain ⟨g, o, e, hr⟩ := h (fun e => hn (by rw [e, List.take_nil]))
  refine ⟨g, o, e, fun j v hv => ?_⟩
  rw [List.getElem?_take] at hv
  split at hv
  · exact hr j v hv
  · cases hv
theorem owns_kepX {X : Nat → Prop} {w w' : World} {base : Nat} {e : TypeId} {size n : Nat} {v : Value} {xs : List Value} (h : w.ownsRow base e size v n xs) (hk : KepX X w w') (hx : ∀ g, v.ownBlock = some g → ¬ X g) : w'.ownsRow base e size v n xs := by
  refine ⟨h.1, ?_⟩
  rcases h.2 with h' | ⟨g, cap', cur, h', hb', hg', r⟩
  · exact .inl h'
  · exact .inr ⟨g, cap', cur, h', hb', (hk.same g (hx g (by rw [h']; rfl)) (Array.getElem?_eq_some_iff.1 hg').1).trans hg', r⟩
theorem owns_addr14 {w : World} {base : Nat} {e : TypeId} {size n cap : Nat} {a : Option Addr} {xs : List Value} (h : w.ownsRow base e size (.slice a n cap) n xs) (hn : 1 ≤ n) : ∃ g, a = some ⟨g, 0, none⟩ ∧ base ≤ g ∧ g < w.heap.size ∧ n ≤ cap ∧ cap ≤ maxLen := by
  rcases h.2 with ⟨h', h2⟩ | ⟨g, cap', cur, h', hb', hg', h3, h4, _⟩
  · omega
  · simp only [Value.slice.injEq] at h'
    obtain ⟨rfl, _, rfl⟩ := h'
    exact ⟨g, rfl, hb', (Array.getElem?_eq_some_iff.1 hg').1, h3, h4⟩
theorem owns_apart14 {w : World} {base base' : Nat} {e e' : TypeId} {size n cap size' n' cap' g g' o o' : Nat} {xs xs' : List Value} (h : w.ownsRow base e size (.slice (some ⟨g, o, none⟩) n cap) n xs) (h' : w.ownsRow base' e' size' (.slice (some ⟨g', o', none⟩) n' cap') n' xs') (hne : ¬ e = e') : g ≠ g' := by
  intro hg
  subst hg
  obtain ⟨_, c1, h1⟩ := owns_block h rfl
  obtain ⟨_, c2, h2⟩ := owns_block h' rfl
  rw [h1] at h2
  cases h2
  exact hne rfl
/-- The bits behind a bit. -/
def S14.next (p bit : Int) : Int := if 2 * p + bit > 255 then 1 else 2 * p + bit
def S14.opens (p : Int) : Prop := p = 1 ∨ 16 ≤ p ∧ p ≤ 31
set_option maxRecDepth 100000 in
theorem aheadLearn_constant (v : Value) (w : World) : (nilAhead 410 115 v "compactor/network.learn").run Tryz.prog w = .ok (some false) w := by kernel_rfl
set_option maxRecDepth 100000 in
theorem methLearn_constant (v : Value) (w : World) : (method 410 115 v "compactor/network.learn").run Tryz.prog w = .ok (172, v) w := by kernel_rfl
set_option maxRecDepth 100000 in
theorem aheadLearn_direct (v : Value) (w : World) : (nilAhead 410 116 v "compactor/network.learn").run Tryz.prog w = .ok (some false) w := by kernel_rfl
set_option maxRecDepth 100000 in
theorem methLearn_direct (v : Value) (w : World) : (method 410 116 v "compactor/network.learn").run Tryz.prog w = .ok (185, v) w := by kernel_rfl
set_option maxRecDepth 100000 in
theorem aheadLearn_history (v : Value) (w : World) : (nilAhead 410 117 v "compactor/network.learn").run Tryz.prog w = .ok (some false) w := by kernel_rfl
set_option maxRecDepth 100000 in
theorem methLearn_history (v : Value) (w : World) : (method 410 117 v "compactor/network.learn").run Tryz.prog w = .ok (214, v) w := by kernel_rfl
set_option maxRecDepth 100000 in
theorem aheadLearn_matched (v : Value) (w : World) : (nilAhead 410 118 v "compactor/network.learn").run Tryz.prog w = .ok (some false) w := by kernel_rfl
set_option maxRecDepth 100000 in
theorem methLearn_matched (v : Value) (w : World) : (method 410 118 v "compactor/network.learn").run Tryz.prog w = .ok (230, v) w := by kernel_rfl
set_option maxRecDepth 100000 in
theorem aheadLearn_average (v : Value) (w : World) : (nilAhead 410 119 v "compactor/network.learn").run Tryz.prog w = .ok (some false) w := by kernel_rfl
set_option maxRecDepth 100000 in
theorem methLearn_average (v : Value) (w : World) : (method 410 119 v "compactor/network.learn").run Tryz.prog w = .ok (257, v) w := by kernel_rfl
set_option maxRecDepth 100000 in
theorem aheadLearn_mixed (v : Value) (w : World) : (nilAhead 410 120 v "compactor/network.learn").run Tryz.prog w = .ok (some false) w := by kernel_rfl
set_option maxRecDepth 100000 in
theorem methLearn_mixed (v : Value) (w : World) : (method 410 120 v "compactor/network.learn").run Tryz.prog w = .ok (265, v) w := by kernel_rfl
set_option maxRecDepth 100000 in
theorem aheadLearn_refined (v : Value) (w : World) : (nilAhead 410 121 v "compactor/network.learn").run Tryz.prog w = .ok (some false) w := by kernel_rfl
set_option maxRecDepth 100000 in
theorem methLearn_refined (v : Value) (w : World) : (method 410 121 v "compactor/network.learn").run Tryz.prog w = .ok (285, v) w := by kernel_rfl
end Go.Proofs.YtieeogndnhighaaGreat
set_option linter.unusedSimpArgs false
set_option linter.unusedVariables false
set_option linter.unusedSectionVars false
namespace Go.Proofs.YtieeogndnhighaaGreat
open Go.RowKit
def cK : S14.C := ⟨0, 0, 3072, 0, 0, 0⟩
def cD : S14.C := ⟨1, 0, 255, 0, 0, 0⟩
def cA : S14.C := ⟨4, 0, 128, 0, 0, 1⟩
set_option maxRecDepth 100000 in
set_option maxHeartbeats 1000000 in
theorem lawConstant14 (w : World) : Calls Tryz.prog 41 #[] w fun e w' => ∃ g, e = .returned (.slice (some ⟨g, 0, none⟩) 1 1) ∧ w'.ownsRow w.heap.size 54 6 (.slice (some ⟨g, 0, none⟩) 1 1) 1 (Cs14 [cK]) ∧ Below w.heap.size w w' := by
  go_enter Tryz.func41, Tryz.ntmps41
  go_wp2
  go_returns
  exact ⟨w.heap.size, rfl, ⟨rfl, .inr ⟨w.heap.size, 1, _, rfl, Nat.le_refl _, heap_alloc_new w _, Nat.le_refl _, by decide, rfl, rfl⟩⟩, (Below.refl _ _).alloc (Nat.le_refl _) _⟩
end Go.Proofs.YtieeogndnhighaaGreat
