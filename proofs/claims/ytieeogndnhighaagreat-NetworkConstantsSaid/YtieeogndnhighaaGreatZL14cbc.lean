/- A part of the proof that ends in L14c (D14, V14, Spec14c, Cl14, Kp14, Q14, Kx14, Rw14, M14, N14, R14). No condition. -/
import Derived.Below
import Derived.BigQuiet
import Derived.Deep.Draws
import Derived.Deep.Light
import Derived.Deep.MidRow
import Derived.Deep.QuietTactic
import Derived.Deep.Slices
import Derived.Handy
import Derived.Laws.AppendOwn
import Derived.Laws.AppendOwnNone
import Derived.Laws.CopyOwn
import Derived.Laws.MakeOwn
import Derived.Laws.OwnMore
import Derived.Laws.Tables
import Derived.Lib.Hide
import Derived.Lib.MinMax
import Derived.LoadGo2
import Derived.LoopIn
import Derived.LoopNIn
import Derived.Maps.AppendAt
import Derived.Orders
import Derived.OrdersHeld
import Derived.OwnWalkIn
import Derived.RangeFuncBound
import Derived.RangeFuncCalls
import Derived.RangeFuncLeaves
import Derived.RangeFuncNested
import Derived.RangeFuncWrites
import Derived.Shelf.Abstract
import Derived.Shelf.RegionOpen
import Derived.Sort.BigQuietIn
import Derived.Sort.QuietIn
import Derived.StillTail
import Derived.Tactics
import Derived.TacticsInMore
import Derived.Test.YtieeogndnhighaaGreatRows
import Derived.Test.YtieeogndnhighaaGreatShelf
import Derived.WalkKit
import Derived.WalkLawsBesides
import Derived.WalkSpells
import Derived.Test.YtieeogndnhighaaGreatZL14cau
import Derived.Test.YtieeogndnhighaaGreatZL14caw
import Derived.Test.YtieeogndnhighaaGreatZL14cax
import Derived.Test.YtieeogndnhighaaGreatZL14cay
import Derived.Test.YtieeogndnhighaaGreatZL14caz
set_option linter.unusedSimpArgs false
set_option linter.unusedVariables false
set_option linter.unusedSectionVars false
namespace Go.Proofs.YtieeogndnhighaaGreat
open Go.RowKit
/-- A part of a state. -/
structure S14.P where
  ctrs : List (Int × Int)
  sb : Int
  sd : List Int
  slot : Int
  m : S12.M
  mi : Int
  mw : List (List Int)
  ac : List Int
/-- Where its lists lie. -/
structure Lay where
  a1 : Option Addr
  c1 : Nat
  a2 : Option Addr
  c2 : Nat
  pl : Pl
  a3 : Option Addr
  c3 : Nat
  a4 : Option Addr
  c4 : Nat
def MixC (p : S14.P) (y : Lay) : List Value := [.int .i64 p.mi, .slice y.a3 p.mw.length y.c3]
def ApmC (p : S14.P) (y : Lay) : List Value := [.slice y.a4 p.ac.length y.c4]
def PVals (p : S14.P) (y : Lay) : List Value :=
  [.slice y.a1 p.ctrs.length y.c1, .int .i64 p.sb, .slice y.a2 p.sd.length y.c2, .int .i64 p.slot, .int .i64 p.m.bits, .int .i64 p.m.least, .slice y.pl.ah p.m.heads.length y.pl.ch, .slice y.pl.ab p.m.bytes.length y.pl.cb, .int .i64 p.m.at_, .int .i64 p.m.len, .int .i64 p.m.part, .int .i64 p.m.bit, .slice y.pl.ac p.m.ctrs.length y.pl.cc,
    .int .i64 p.mi, .slice y.a3 p.mw.length y.c3, .slice y.a4 p.ac.length y.c4]
def PV (p : S14.P) (y : Lay) : Value := .agg (PVals p y).toArray
/-- A part lies in the world. -/
structure PIs (p : S14.P) (y : Lay) (w : World) : Prop where
  rc : Rd w y.a1 (Cts p.ctrs)
  tab : Tab p.sd y.a2 y.c2 w
  mch : MIs p.m y.pl w
  mix : MixIs p.mi p.mw (.agg (MixC p y).toArray) w
  apm : MapIs p.ac (.agg (ApmC p y).toArray) w
theorem PIs.step {p : S14.P} {y : Lay} {w w' : World} (h : PIs p y w) (hb : Below w.heap.size w w') : PIs p y w' :=
  ⟨h.rc.step hb, h.tab.step hb, h.mch.step hb, h.mix.step hb, h.apm.step hb⟩
theorem PVals_length (p : S14.P) (y : Lay) : (PVals p y).length = 16 := rfl
theorem PVals_one (p : S14.P) (y : Lay) : ∀ v ∈ PVals p y, v.oneCell' = true := by
  intro v hv
  simp only [PVals, List.mem_cons, List.not_mem_nil, or_false] at hv
  rcases hv with rfl | rfl | rfl | rfl | rfl | rfl | rfl | rfl | rfl | rfl | rfl | rfl | rfl | rfl | rfl | rfl <;> rfl
/-- The part without anything. -/
def S14.P0 : S14.P := ⟨[], 0, [], 0, ⟨0, 0, [], [], 0, 0, 0, 0, []⟩, 0, [], []⟩
def Lay0 : Lay := ⟨none, 0, none, 0, ⟨none, 0, none, 0, none, 0⟩, none, 0, none, 0⟩
theorem PIs.zero (w : World) : PIs S14.P0 Lay0 w :=
  ⟨Rd.nil _ _, ⟨(fun x hx => (by cases hx)), Nat.le_refl _, Rd.nil _ _⟩, ⟨Rd.nil _ _, Rd.nil _ _, Rd.nil _ _, (fun x hx => (by cases hx)), Nat.le_refl _, by decide, by decide, by decide⟩,
    ⟨[], none, 0, rfl, rfl, Nat.le_refl _, by decide, Rd.nil _ _, (fun r hr => (by cases hr))⟩, ⟨none, 0, rfl, Nat.le_refl _, by decide, Rd.nil _ _⟩⟩
/-- A state. -/
structure S14.N where
  comps : List S14.C
  parts : List S14.P
  ctxs : List Nat
  part : Int
structure NLay where
  a1 : Option Addr
  c1 : Nat
  a2 : Option Addr
  c2 : Nat
  a3 : Option Addr
  c3 : Nat
  ys : List Lay
def U32s (l : List Nat) : List Value := l.map fun (x : Nat) => .int .u32 (x : Int)
theorem U32s_length (l : List Nat) : (U32s l).length = l.length := by simp [U32s]
def PCs : List S14.P → List Lay → List Value
  | p :: ps, y :: ys => PVals p y ++ PCs ps ys
  | _, _ => []
def NVals (N : S14.N) (L : NLay) : List Value := [.slice L.a1 N.comps.length L.c1, .slice L.a2 N.parts.length L.c2, .slice L.a3 N.ctxs.length L.c3, .int .i64 N.part]
def NV (N : S14.N) (L : NLay) : Value := .agg (NVals N L).toArray
/-- A state lies in the world. -/
structure NIs (N : S14.N) (L : NLay) (w : World) : Prop where
  rc : Rd w L.a1 (Cs14 N.comps)
  rp : Rd w L.a2 (PCs N.parts L.ys)
  rx : Rd w L.a3 (U32s N.ctxs)
  ly : L.ys.length = N.parts.length
  ps : ∀ (i : Nat) (p : S14.P) (y : Lay), N.parts[i]? = some p → L.ys[i]? = some y → PIs p y w
  xs : ∀ x ∈ N.ctxs, x < 4294967296
  l1 : N.comps.length ≤ L.c1 ∧ L.c1 ≤ 9223372036854775807
  l2 : N.parts.length ≤ L.c2 ∧ L.c2 ≤ 9223372036854775807
  l3 : N.ctxs.length ≤ L.c3 ∧ L.c3 ≤ 9223372036854775807
theorem NIs.step {N : S14.N} {L : NLay} {w w' : World} (h : NIs N L w) (hb : Below w.heap.size w w') : NIs N L w' :=
  ⟨h.rc.step hb, h.rp.step hb, h.rx.step hb, h.ly, fun i p y h1 h2 => (h.ps i p y h1 h2).step hb, h.xs, h.l1, h.l2, h.l3⟩
theorem PCs_length : ∀ (ps : List S14.P) (ys : List Lay), ys.length = ps.length → (PCs ps ys).length = 16 * ps.length
  | [], [], _ => rfl
  | p :: ps, y :: ys, h => by
    have := PCs_length ps ys (by simpa using h)
    simp only [PCs, List.length_append, PVals_length, List.length_cons, this]; omega
theorem PCs_at : ∀ (ps : List S14.P) (ys : List Lay) {i j : Nat} {p : S14.P} {y : Lay}, ps[i]? = some p → ys[i]? = some y → j < 16 → (PCs ps ys)[16 * i + j]? = (PVals p y)[j]?
  | [], _, i, j, p, y, h, _, _ => by simp at h
  | _ :: _, [], i, j, p, y, _, h, _ => by simp at h
  | q :: ps, z :: ys, 0, j, p, y, h1, h2, hj => by
    obtain rfl : q = p := by simpa using h1
    obtain rfl : z = y := by simpa using h2
    show (PVals q z ++ PCs ps ys)[16 * 0 + j]? = _
    rw [Nat.mul_zero, Nat.zero_add, List.getElem?_append_left (by rw [PVals_length]; exact hj)]
  | q :: ps, z :: ys, i + 1, j, p, y, h1, h2, hj => by
    show (PVals q z ++ PCs ps ys)[16 * (i + 1) + j]? = _
    rw [List.getElem?_append_right (by rw [PVals_length]; omega), PVals_length, show 16 * (i + 1) + j - 16 = 16 * i + j by omega]
    exact PCs_at ps ys (by simpa using h1) (by simpa using h2) hj
/-- The cells of a part. -/
theorem NIs.part_at {N : S14.N} {L : NLay} {w : World} (h : NIs N L w) {k : Nat} (hk : k < N.parts.length) : ∃ b o p y, L.a2 = some ⟨b, o, none⟩ ∧ N.parts[k]? = some p ∧ L.ys[k]? = some y ∧ w.rangeAt b (o + k * 16) (PVals p y) ∧ PIs p y w := by
  obtain ⟨p, hp⟩ : ∃ p, N.parts[k]? = some p := ⟨_, List.getElem?_eq_getElem hk⟩
  obtain ⟨y, hy⟩ : ∃ y, L.ys[k]? = some y := ⟨_, List.getElem?_eq_getElem (by rw [h.ly]; exact hk)⟩
  obtain ⟨b, o, e, hcs⟩ := h.rp (fun e => by have h1 := congrArg List.length e; rw [PCs_length _ _ h.ly] at h1; simp at h1; omega)
  refine ⟨b, o, p, y, e, hp, hy, fun j v hv => ?_, h.ps k p y hp hy⟩
  have hj : j < 16 := by have := (List.getElem?_eq_some_iff.1 hv).1; rwa [PVals_length] at this
  have := hcs (16 * k + j) v ((PCs_at _ _ hp hy hj).trans hv)
  rw [show o + (16 * k + j) = o + k * 16 + j by omega] at this
  exact this
theorem NIs.comp_at {N : S14.N} {L : NLay} {w : World} (h : NIs N L w) {k : Nat} {c : S14.C} (hc : N.comps[k]? = some c) : ∃ b o, L.a1 = some ⟨b, o, none⟩ ∧ Elem14 w b (o + k * 6) c := by
  have hk := (List.getElem?_eq_some_iff.1 hc).1
  obtain ⟨b, o, e, hcs⟩ := h.rc (fun e => by have h1 := congrArg List.length e; rw [Cs14_length] at h1; simp at h1; omega)
  exact ⟨b, o, e, elem14 hcs hc⟩
theorem NIs.ctx_at {N : S14.N} {L : NLay} {w : World} (h : NIs N L w) {k : Nat} (hk : k < N.ctxs.length) : ∃ b o, L.a3 = some ⟨b, o, none⟩ ∧ w.cell? ⟨b, o + k, none⟩ = some (.int .u32 (N.ctxs.getD k 0 : Nat)) ∧ N.ctxs.getD k 0 < 4294967296 := by
  obtain ⟨b, o, e, hcs⟩ := h.rx.at (i := k) (by rw [U32s_length]; exact hk)
  refine ⟨b, o, e, ?_, ?_⟩
  · rw [hcs k (by rw [U32s_length]; exact hk), List.getD_eq_getElem?_getD, List.getElem?_eq_getElem hk]
    simp [U32s]
  · rw [List.getD_eq_getElem?_getD, List.getElem?_eq_getElem hk]
    exact h.xs _ (List.getElem_mem hk)
/-- The state without anything. -/
def S14.N0 : S14.N := ⟨[], [], [], 0⟩
def NLay0 : NLay := ⟨none, 0, none, 0, none, 0, []⟩
theorem NIs.zero (w : World) : NIs S14.N0 NLay0 w :=
  ⟨Rd.nil _ _, Rd.nil _ _, Rd.nil _ _, rfl, (fun i p y h => (by simp [S14.N0] at h)), (fun x hx => (by cases hx)), ⟨Nat.le_refl _, by decide⟩, ⟨Nat.le_refl _, by decide⟩, ⟨Nat.le_refl _, by decide⟩⟩
def zP : Array Value := (PVals S14.P0 Lay0).toArray
set_option maxRecDepth 100000 in
theorem zeroP_run (w : World) : (zeroValue 83).run Tryz.prog w = .ok (.agg zP) w := by
  have h : (Tryz.prog.info? 83).bind (·.zero) = some (.agg zP) := by kernel_rfl
  obtain ⟨i, hi⟩ : ∃ i, Tryz.prog.info? 83 = some i := by
    cases hh : Tryz.prog.info? 83 with
    | none => rw [hh] at h; cases h
    | some i => exact ⟨i, rfl⟩
  rw [hi] at h
  have hz : i.zero = some (.agg zP) := h
  unfold zeroValue typeInfo
  simp [go_sem, hi, hz]
theorem alloc_P (w : World) : (Instr.alloc 83 true (.tuple #[])).run Tryz.prog w = .ok (.pointer (some ⟨w.heap.size, 0, none⟩)) (w.alloc (.cells zP 83)) := by
  have hz := zeroP_run w
  unfold Instr.alloc
  simp [hz, go_sem]
set_option maxRecDepth 100000 in
theorem info_P : (Tryz.prog.info? 83).map (·.size) = some 16 := by kernel_rfl
theorem blk_zP (w : World) : Blk (w.alloc (.cells zP 83)) w.heap.size (PVals S14.P0 Lay0) 83 := Blk.new w _ _
attribute [irreducible] zP
theorem results_cell {P : Program} {fn : Func} {tmps : Array Value} {a : Nat} {t : TypeId} {p : Addr} {v : Value} {w : World} (hr : fn.results = #[.cell a t]) (hp : tmps.getD a undef = .pointer (some p))
    (hL : (loadVar t p).run P w = .ok v w) : (results fn tmps).run P w = .ok v w := by
  have hp2 : (asAddr (.pointer (some p))).run P w = .ok p w := by simp [asAddr, go_sem]
  have hp' : tmps[a]?.getD undef = .pointer (some p) := by simpa using hp
  unfold results
  rw [hr]
  simp [hp', hp2, hL]
theorem results_cell2 {P : Program} {fn : Func} {tmps : Array Value} {a b : Nat} {t : TypeId} {p : Addr} {v u : Value} {w : World} (hr : fn.results = #[.cell a t, .tmp b]) (hp : tmps.getD a undef = .pointer (some p)) (hu : tmps.getD b undef = u)
    (hL : (loadVar t p).run P w = .ok v w) : (results fn tmps).run P w = .ok (.tuple #[v, u]) w := by
  have hp2 : (asAddr (.pointer (some p))).run P w = .ok p w := by simp [asAddr, go_sem]
  have hp' : tmps[a]?.getD undef = .pointer (some p) := by simpa using hp
  have hu' : tmps[b]?.getD undef = u := by simpa using hu
  unfold results
  rw [hr]
  simp [hp', hu', hp2, hL]
end Go.Proofs.YtieeogndnhighaaGreat
set_option linter.unusedSimpArgs false
set_option linter.unusedVariables false
set_option linter.unusedSectionVars false
namespace Go.Proofs.YtieeogndnhighaaGreat
open Go.RowKit
def VV (N : S14.N) (L : NLay) (k : Nat) (b : Value) : Value := .agg #[.slice L.a1 N.comps.length L.c1, .slice L.a2 N.parts.length L.c2, .slice L.a3 N.ctxs.length L.c3, .int .i64 N.part, .int .i64 (k : Int), b]
set_option maxRecDepth 100000 in
set_option maxHeartbeats 1000000 in
theorem part14_any (N : S14.N) (L : NLay) (k : Nat) (b : Value) (hb : b.oneCell' = true) (w : World) (hN : NIs N L w) (hk : k < N.parts.length) (p : S14.P) (y : Lay) (hp : N.parts[k]? = some p) (hy : L.ys[k]? = some y) :
    Calls Tryz.prog 176 #[VV N L k b] w fun e w' => e = .returned (PV p y) ∧ Below w.heap.size w w' := by
  obtain ⟨bb, o, p', y', hL2, hp', hy', hcs, hP⟩ := hN.part_at hk
  rw [hp] at hp'
  rw [hy] at hy'
  cases hp'
  cases hy'
  unfold VV
  rw [hL2]
  have hkz : (k : Int) < (N.parts.length : Int) := by omega
  have hPl : some 16 = some (PVals p y).length := rfl
  have hPl2 : (PVals S14.P0 Lay0).length = (PVals p y).length := rfl
  have h1 := PVals_one p y
  unfold PV
  obtain ⟨nc, hnc⟩ : ∃ n, N.comps.length = n := ⟨_, rfl⟩
  obtain ⟨np, hnp⟩ : ∃ n, N.parts.length = n := ⟨_, rfl⟩
  obtain ⟨nx, hnx⟩ : ∃ n, N.ctxs.length = n := ⟨_, rfl⟩
  obtain ⟨pt, hpt⟩ : ∃ n, N.part = n := ⟨_, rfl⟩
  rw [hnp] at hkz
  rw [hnc, hnp, hnx, hpt]
  clear hnc hnp hnx hpt hk hN
  obtain ⟨Q, hQ⟩ : ∃ Q, PVals p y = Q := ⟨_, rfl⟩
  rw [hQ] at hcs hPl hPl2 h1 ⊢
  clear hQ hP hp hy
  obtain ⟨W1, hW1⟩ : ∃ W1, (w.alloc (.cells #[.slice L.a1 nc L.c1, .slice (some ⟨bb, o, none⟩) np L.c2, .slice L.a3 nx L.c3, .int .i64 pt, .int .i64 (k : Int), b] 104)).alloc (.cells zP 83) = W1 := ⟨_, rfl⟩
  have k1 : Blk W1 w.heap.size [.slice L.a1 nc L.c1, .slice (some ⟨bb, o, none⟩) np L.c2, .slice L.a3 nx L.c3, .int .i64 pt, .int .i64 (k : Int), b] 104 := by rw [← hW1]; exact (Blk.new w _ _).alloc _
  have k2 : Blk W1 (w.heap.size + 1) (PVals S14.P0 Lay0) 83 := by
    rw [← hW1]
    have h := blk_zP (w.alloc (.cells #[.slice L.a1 nc L.c1, .slice (some ⟨bb, o, none⟩) np L.c2, .slice L.a3 nx L.c3, .int .i64 pt, .int .i64 (k : Int), b] 104))
    rwa [World.size_alloc] at h
  have B1 : Below w.heap.size w W1 := by rw [← hW1]; exact ((Below.refl _ _).alloc (Nat.le_refl _) _).alloc (by simp) _
  have hcs1 := rangeAt_step hcs B1
  have e1 := k1.cell 1
  have e4 := k1.cell 4
  simp only [List.getElem?_cons_zero, List.getElem?_cons_succ] at e1 e4
  go_enter Tryz.func176, Tryz.ntmps176
  go_wp2_with (first
    | (refine wpList_alloc 83 zP alloc_P (by rfl) (by rfl) ?_
       rw [hW1])
    | (refine wpList_load_mid (by rfl) 83 (.tmp 8) (by rfl) bb (o + k * 16) (by rfl) Q _ hcs1 Tryz.underlying83 rfl (info_P.trans hPl) ?_)
    | (refine wpList_storeB 83 (.tmp 2) (.tmp 9) (by rfl) (by rfl) (w.heap.size + 1) (by rfl) Q (by rfl) _ 83 k2 (info_P.trans hPl) hPl2 h1 ?_
       intro wL EL gL sL))
  have hL := run_loadVar_mid wL _ 0 _ _ _ EL.cells Tryz.underlying83 rfl (info_P.trans hPl)
  refine bodyPost_ret (v := .agg Q.toArray) ?_ rfl ?_
  · exact results_cell (show Tryz.f176.results = #[.cell 2 83] from rfl) (p := ⟨w.heap.size + 1, 0, none⟩) rfl hL
  · exact ⟨rfl, B1.trans (rowBelow gL (by omega) B1.size)⟩
set_option maxRecDepth 100000 in
set_option maxHeartbeats 1000000 in
theorem vhash14_any (N : S14.N) (L : NLay) (k : Nat) (b : Value) (w : World) (hN : NIs N L w) (hk : k < N.ctxs.length) (pt : Nat) (hpt : N.part = (pt : Int)) (hpt2 : pt < 4294967296) :
    Calls Tryz.prog 67 #[VV N L k b] w fun e w' => e = .returned (.int .u32 (S14.hash (N.ctxs.getD k 0) pt : Int)) ∧ Below w.heap.size w w' := by
  obtain ⟨bb, o, hL3, hx, hlt⟩ := hN.ctx_at hk
  have HH := Lib.hid fun W => hash14_any (N.ctxs.getD k 0) pt hlt hpt2 W
  unfold VV
  rw [hL3, hpt]
  have hkz : (k : Int) < (N.ctxs.length : Int) := by omega
  obtain ⟨nc, hnc⟩ : ∃ n, N.comps.length = n := ⟨_, rfl⟩
  obtain ⟨np, hnp⟩ : ∃ n, N.parts.length = n := ⟨_, rfl⟩
  obtain ⟨nx, hnx⟩ : ∃ n, N.ctxs.length = n := ⟨_, rfl⟩
  obtain ⟨c, hc⟩ : ∃ c, N.ctxs.getD k 0 = c := ⟨_, rfl⟩
  obtain ⟨H, hH⟩ : ∃ H, S14.hash c pt = H := ⟨_, rfl⟩
  rw [hc] at hx HH hlt ⊢
  rw [hH] at HH ⊢
  rw [hnx] at hkz
  rw [hnc, hnp, hnx]
  clear hnc hnp hnx hc hH hk hN hpt
  obtain ⟨W1, hW1⟩ : ∃ W1, w.alloc (.cells #[.slice L.a1 nc L.c1, .slice L.a2 np L.c2, .slice (some ⟨bb, o, none⟩) nx L.c3, .int .i64 (pt : Int), .int .i64 (k : Int), b] 104) = W1 := ⟨_, rfl⟩
  have k1 : Blk W1 w.heap.size [.slice L.a1 nc L.c1, .slice L.a2 np L.c2, .slice (some ⟨bb, o, none⟩) nx L.c3, .int .i64 (pt : Int), .int .i64 (k : Int), b] 104 := by rw [← hW1]; exact Blk.new w _ _
  have B1 : Below w.heap.size w W1 := by rw [← hW1]; exact (Below.refl _ _).alloc (Nat.le_refl _) _
  have hx1 := (B1.cell (block_lt_of_cell hx)).trans hx
  go_enter Tryz.func67, Tryz.ntmps67
  go_wp2_with (rw [hW1])
  have hCS : Cells W1 [(⟨w.heap.size, 2, none⟩, .slice (some ⟨bb, o, none⟩) nx L.c3), (⟨w.heap.size, 3, none⟩, .int .i64 (pt : Int)), (⟨w.heap.size, 4, none⟩, .int .i64 (k : Int)), (⟨bb, o + k, none⟩, .int .u32 (c : Int))] := ⟨k1.cell 2, k1.cell 3, k1.cell 4, hx1, trivial⟩
  refine wp_region_seq 11 1 [(true, [true, true, true, true, true, true, true, true, true, true]), (false, [false, false, false, false, false, false, false, false, false, false, true])] _ _ (Keeps W1 [(⟨w.heap.size, 2, none⟩, .slice (some ⟨bb, o, none⟩) nx L.c3), (⟨w.heap.size, 3, none⟩, .int .i64 (pt : Int)), (⟨w.heap.size, 4, none⟩, .int .i64 (k : Int)), (⟨bb, o + k, none⟩, .int .u32 (c : Int))]) (by kernel_rfl) (List.take_append_drop 11 _).symm (by kernel_rfl) (by kernel_rfl) (by kernel_rfl) (by kernel_rfl) (Keeps.start hCS) (fun Y Q4 F4 hY hF => ?_)
  simp only [phased, List.flatMap_cons, List.flatMap_nil, List.take_succ_cons, List.take_zero, List.drop_succ_cons, List.drop_zero, sel_true, sel_false, sel_nil, List.map_cons, List.map_nil, List.cons_append, List.nil_append, List.append_nil]
  repeat
    apply wpSeq_read (by first | rfl | (rw [hY]; rfl))
    · intro w2 hS2
      (try simp only [Keeps, Cells] at hS2)
      (try simp only [HasC, Cells] at hS2)
      go_simp
      with_reducible rfl
    simp only [Act.put, List.setIfInBounds_toArray, List.set_cons_zero, List.set_cons_succ]
  apply wpSeq_call (by first | rfl | (rw [hY]; rfl))
  · go_simp
    with_reducible exact ⟨rfl, rfl⟩
  refine (HH.out _).mono ?_
  rintro e w2 ⟨rfl, hb2⟩
  have hk2 := (Keeps.start hCS).step hb2
  refine ⟨_, rfl, hk2, ?_⟩
  simp only [Act.put, List.setIfInBounds_toArray, List.set_cons_zero, List.set_cons_succ]
  refine wpSeq_done (hF.out _ _ (fun K hK => ?_))
  clear hF hY
  have hB2 := below_trans B1 hk2.1
  go_wp2_with fail
  refine OnlyK.mk (hK.out _ _ ?_)
  clear hK hk2
  go_wp2
  go_returns
  exact ⟨rfl, hB2⟩
set_option maxRecDepth 100000 in
set_option maxHeartbeats 1000000 in
theorem index14_any (N : S14.N) (L : NLay) (k : Nat) (b : Value) (w : World) (hN : NIs N L w) (hk : k < N.ctxs.length) (pt : Nat) (hpt : N.part = (pt : Int)) (hpt2 : pt < 4294967296) (c : S14.C) (hc : N.comps[k]? = some c) (n : Nat) (hn : c.bits = (n : Int)) (hn2 : n ≤ 16) :
    Calls Tryz.prog 193 #[VV N L k b] w fun e w' => e = .returned (.int .i64 (S14.index (N.ctxs.getD k 0) pt n : Int)) ∧ Below w.heap.size w w' := by
  have HH := Lib.hid fun (W : World) (hW : Below w.heap.size w W) => vhash14_any N L k b W (hN.step hW) hk pt hpt hpt2
  obtain ⟨bb, o, hL1, hE⟩ := hN.comp_at hc
  have hkz : (k : Int) < (N.comps.length : Int) := by have := (List.getElem?_eq_some_iff.1 hc).1; omega
  have hx := hE.e1
  rw [hn] at hx
  unfold S14.index
  have hlt := S14.hash_lt (N.ctxs.getD k 0) pt
  unfold VV at HH ⊢
  rw [hL1, hpt] at HH ⊢
  obtain ⟨nc, hnc⟩ : ∃ n, N.comps.length = n := ⟨_, rfl⟩
  obtain ⟨np, hnp⟩ : ∃ n, N.parts.length = n := ⟨_, rfl⟩
  obtain ⟨nx, hnx⟩ : ∃ n, N.ctxs.length = n := ⟨_, rfl⟩
  obtain ⟨H, hH⟩ : ∃ H, S14.hash (N.ctxs.getD k 0) pt = H := ⟨_, rfl⟩
  rw [hH] at HH hlt ⊢
  rw [hnc] at hkz
  rw [hnc, hnp, hnx] at HH ⊢
  clear hnc hnp hnx hH hk hN hpt hE hc hn
  obtain ⟨W1, hW1⟩ : ∃ W1, w.alloc (.cells #[.slice (some ⟨bb, o, none⟩) nc L.c1, .slice L.a2 np L.c2, .slice L.a3 nx L.c3, .int .i64 (pt : Int), .int .i64 (k : Int), b] 104) = W1 := ⟨_, rfl⟩
  have k1 : Blk W1 w.heap.size [.slice (some ⟨bb, o, none⟩) nc L.c1, .slice L.a2 np L.c2, .slice L.a3 nx L.c3, .int .i64 (pt : Int), .int .i64 (k : Int), b] 104 := by rw [← hW1]; exact Blk.new w _ _
  have B1 : Below w.heap.size w W1 := by rw [← hW1]; exact (Below.refl _ _).alloc (Nat.le_refl _) _
  have hx1 := (B1.cell (block_lt_of_cell hx)).trans hx
  have hw1 : IntKind.i64.wrap (32 - (n : Int)) = ((32 - n : Nat) : Int) := by rw [IntWalk.i64_in _ (by omega)]; omega
  have hw2 : IntKind.u64.wrap (H : Int) = (H : Int) := by rw [IntKind.wrap_u64]; omega
  have hq : H / 2 ^ (32 - n) ≤ H := Nat.div_le_self _ _
  have hdv : (H : Int) / 2 ^ (32 - n) = ((H / 2 ^ (32 - n) : Nat) : Int) := by simp
  obtain ⟨q, hqe⟩ : ∃ q, H / 2 ^ (32 - n) = q := ⟨_, rfl⟩
  rw [hqe] at hq hdv ⊢
  have hw3 : IntKind.i64.wrap (q : Int) = (q : Int) := IntWalk.i64_in _ (by omega)
  have hdw := Lib.hid (hdv ▸ hw3 : IntKind.i64.wrap ((H : Int) / 2 ^ (32 - n)) = ((q : Nat) : Int))
  clear hqe hdv
  go_enter Tryz.func193, Tryz.ntmps193
  go_wp2_with (rw [hW1])
  have hCS : Cells W1 [(⟨w.heap.size, 0, none⟩, .slice (some ⟨bb, o, none⟩) nc L.c1), (⟨w.heap.size, 1, none⟩, .slice L.a2 np L.c2), (⟨w.heap.size, 2, none⟩, .slice L.a3 nx L.c3), (⟨w.heap.size, 3, none⟩, .int .i64 (pt : Int)), (⟨w.heap.size, 4, none⟩, .int .i64 (k : Int)), (⟨w.heap.size, 5, none⟩, b), (⟨bb, o + k * 6 + 1, none⟩, .int .i64 (n : Int))] := ⟨k1.cell 0, k1.cell 1, k1.cell 2, k1.cell 3, k1.cell 4, k1.cell 5, hx1, trivial⟩
  refine wp_region_seq 14 1 [(true, [true, false, false, true, true, true, true, true, true, true, true, true]), (false, [false, true]), (true, [false, false, true, false, false, false, false, false, false, false, false, false, true, true])] _ _ (Keeps W1 [(⟨w.heap.size, 0, none⟩, .slice (some ⟨bb, o, none⟩) nc L.c1), (⟨w.heap.size, 1, none⟩, .slice L.a2 np L.c2), (⟨w.heap.size, 2, none⟩, .slice L.a3 nx L.c3), (⟨w.heap.size, 3, none⟩, .int .i64 (pt : Int)), (⟨w.heap.size, 4, none⟩, .int .i64 (k : Int)), (⟨w.heap.size, 5, none⟩, b), (⟨bb, o + k * 6 + 1, none⟩, .int .i64 (n : Int))]) (by kernel_rfl) (List.take_append_drop 14 _).symm (by kernel_rfl) (by kernel_rfl) (by kernel_rfl) (by kernel_rfl) (Keeps.start hCS) (fun Y Q4 F4 hY hF => ?_)
  simp only [phased, List.flatMap_cons, List.flatMap_nil, List.take_succ_cons, List.take_zero, List.drop_succ_cons, List.drop_zero, sel_true, sel_false, sel_nil, List.map_cons, List.map_nil, List.cons_append, List.nil_append, List.append_nil]
  repeat
    apply wpSeq_read (by first | rfl | (rw [hY]; rfl))
    · intro w2 hS2
      (try simp only [Keeps, Cells] at hS2)
      (try simp only [HasC, Cells] at hS2)
      go_simp
      with_reducible rfl
    simp only [Act.put, List.setIfInBounds_toArray, List.set_cons_zero, List.set_cons_succ]
  apply wpSeq_call (by first | rfl | (rw [hY]; rfl))
  · go_simp
    with_reducible exact ⟨rfl, rfl⟩
  refine (HH.out _ (below_trans B1 (Keeps.start hCS).1)).mono ?_
  rintro e w2 ⟨rfl, hb2⟩
  have hk2 := (Keeps.start hCS).step hb2
  refine ⟨_, rfl, hk2, ?_⟩
  simp only [Act.put, List.setIfInBounds_toArray, List.set_cons_zero, List.set_cons_succ]
  repeat
    apply wpSeq_read (by first | rfl | (rw [hY]; rfl))
    · intro w2 hS2
      (try simp only [Keeps, Cells] at hS2)
      (try simp only [HasC, Cells] at hS2)
      go_simp
      with_reducible rfl
    simp only [Act.put, List.setIfInBounds_toArray, List.set_cons_zero, List.set_cons_succ]
  rw [hdw.out]
  refine wpSeq_done (hF.out _ _ (fun K hK => ?_))
  clear hF hY
  have hB2 := below_trans B1 hk2.1
  go_wp2_with fail
  refine OnlyK.mk (hK.out _ _ ?_)
  clear hK hk2
  go_wp2
  go_returns
  exact ⟨rfl, hB2⟩
end Go.Proofs.YtieeogndnhighaaGreat
set_option linter.unusedSimpArgs false
set_option linter.unusedVariables false
set_option linter.unusedSectionVars false
namespace Go.Proofs.YtieeogndnhighaaGreat
open Go.RowKit
namespace S14
def noM (m : S12.M) : Bool := m.bits == 0 && m.least == 0 && m.at_ == 0 && m.len == 0 && m.part == 0 && m.bit == 0 && decide (m.heads.length + m.bytes.length + m.ctrs.length = 0)
/-- Nothing in it. -/
def bare (p : P) : Bool := decide (p.ctrs.length = 0) && p.sb == 0 && decide (p.sd.length = 0) && p.slot == 0 && noM p.m && p.mi == 0 && decide (p.mw.length = 0) && decide (p.ac.length = 0)
def okCtrs (l : List (Int × Int)) (n : Nat) (limit : Int) : Bool := decide (l.length = n) && !l.any (fun c => decide (S08.check c.1 c.2 limit ≠ 0))
def zM : S12.M := ⟨0, 0, [], [], 0, 0, 0, 0, []⟩
/-- Whether a part is right. -/
def right (c : C) (p : P) (pt : Int) : Bool :=
  if c.kind = 0 then bare p
  else if c.kind = 1 then bare { p with ctrs := [] } && okCtrs p.ctrs (2 ^ c.bits.toNat) c.limit
  else if c.kind = 2 then okCtrs p.ctrs 215 c.limit && p.sb == c.bits && decide (S10.check p.sb p.sd = 0) && has p.slot 0 (2 ^ c.bits.toNat - 1) && bare { p with ctrs := [], sb := 0, sd := [], slot := 0 }
  else if c.kind = 3 then bare { p with m := zM } && p.m.bits == c.bits && p.m.least == c.limit && p.m.part == pt && decide (S12.check p.m = 0)
  else if c.kind = 4 then bare p
  else if c.kind = 5 then bare { p with mi := 0, mw := [] } && p.mi == c.second - c.first + 1 && decide ((p.mw.length : Int) = 2 ^ c.bits.toNat) && decide (S13.check 16 p.mi p.mw = 0)
  else if c.kind = 6 then bare { p with ac := [] } && decide ((p.ac.length : Int) = 33 * 2 ^ c.bits.toNat) && decide (S11.check p.ac = 0)
  else false
/-- Where a component looks. -/
def at_ (N : N) (k : Nat) (c : C) : Nat := index (N.ctxs.getD k 0) N.part.toNat c.bits.toNat
def ctr (p : P) (i : Nat) : Int × Int := p.ctrs.getD i (0, 0)
def probe (p : P) (i : Nat) : Int := S06.stretch (S08.predict (ctr p i).1 (ctr p i).2)
/-- What a component knows of itself and of the state. -/
structure Sees (N : N) (L : NLay) (k : Nat) (c : C) (p : P) (y : Lay) (bef : List Int) (a : Option Addr) (w : World) : Prop where
  nis : NIs N L w
  hc : N.comps[k]? = some c
  hp : N.parts[k]? = some p
  hy : L.ys[k]? = some y
  hx : k < N.ctxs.length
  pt : 1 ≤ N.part ∧ N.part ≤ 255
  ok : ok c (k : Int) = true
  right : right c p N.part = true
  rb : Rd w a (Ints bef)
  len : bef.length = k
  in_ : ∀ x ∈ bef, -3071 ≤ x ∧ x ≤ 3071
  k16 : k < 16
theorem Sees.step {N : N} {L : NLay} {k : Nat} {c : C} {p : P} {y : Lay} {bef : List Int} {a : Option Addr} {w w' : World} (h : Sees N L k c p y bef a w) (hb : Below w.heap.size w w') : Sees N L k c p y bef a w' :=
  ⟨h.nis.step hb, h.hc, h.hp, h.hy, h.hx, h.pt, h.ok, h.right, h.rb.step hb, h.len, h.in_, h.k16⟩
end S14
end Go.Proofs.YtieeogndnhighaaGreat
set_option linter.unusedSimpArgs false
set_option linter.unusedVariables false
set_option linter.unusedSectionVars false
namespace Go.Proofs.YtieeogndnhighaaGreat
open Go.RowKit
theorem Cs14_one : ∀ (l : List S14.C), ∀ u ∈ Cs14 l, u.oneCell' = true := fun l u hu => by
  unfold Cs14 at hu
  obtain ⟨x, hx, hm⟩ := List.mem_flatten.1 hu
  obtain ⟨c, _, rfl⟩ := List.mem_map.1 hx
  simp only [Cells14, List.mem_cons, List.not_mem_nil, or_false] at hm
  rcases hm with rfl | rfl | rfl | rfl | rfl | rfl <;> rfl
theorem PCs_one : ∀ (ps : List S14.P) (ys : List Lay), ∀ u ∈ PCs ps ys, u.oneCell' = true
  | [], _, u, hu => by simp [PCs] at hu
  | _ :: _, [], u, hu => by simp [PCs] at hu
  | p :: ps, y :: ys, u, hu => by
    rcases List.mem_append.1 (show u ∈ PVals p y ++ PCs ps ys from hu) with h | h
    · exact PVals_one p y u h
    · exact PCs_one ps ys u h
theorem U32s_one (l : List Nat) : ∀ u ∈ U32s l, u.oneCell' = true := fun u hu => by
  obtain ⟨x, _, rfl⟩ := List.mem_map.1 hu
  rfl
theorem Cts14_one (l : List (Int × Int)) : ∀ u ∈ Cts l, u.oneCell' = true := fun u hu => by
  unfold Cts at hu
  obtain ⟨x, _, hm⟩ := List.mem_flatMap.1 hu
  simp only [List.mem_cons, List.not_mem_nil, or_false] at hm
  rcases hm with rfl | rfl <;> rfl
theorem elems_comps : Elems Tryz.prog 22 54 6 48 [.int .i64 0, .int .i64 0, .int .i64 0, .int .i64 0, .int .i64 0, .int .i64 0] := ⟨Tryz.underlying22, by kernel_rfl, rfl, by decide⟩
theorem elems_parts : Elems Tryz.prog 23 83 16 240 (PVals S14.P0 Lay0) := ⟨Tryz.underlying23, by kernel_rfl, rfl, by decide⟩
theorem elems_u32 : Elems Tryz.prog 24 109 1 4 [.int .u32 0] := ⟨Tryz.underlying24, by kernel_rfl, rfl, by decide⟩
theorem elems_ctrs14 : Elems Tryz.prog 73 170 2 16 [.int .i64 0, .int .i64 0] := ⟨Tryz.underlying73, by kernel_rfl, rfl, by decide⟩
set_option maxHeartbeats 400000 in
theorem cloneComps14 (vals : List Value) (n : Nat) (hl : vals.length = n * 6) (hone : ∀ u ∈ vals, u.oneCell' = true) (g o : Nat) (cap : Nat) (w : World) (h1 : 1 ≤ n) (h2 : n ≤ 100000) (hrd : Rd w (some ⟨g, o, none⟩) vals) :
    Calls Tryz.prog 42 #[.slice (some ⟨g, o, none⟩) n cap] w fun e w' => ∃ b cap', e = .returned (.slice b n cap') ∧ w'.ownsRow w.heap.size 54 6 (.slice b n cap') n vals ∧ Below w.heap.size w w' := by
  have qT : ∀ (w : World) (a : Option Addr) (n c n' c' : Nat), (binOp .eql 22 (.slice a n c) (.slice none n' c')).run Tryz.prog w = .ok (.bool a.isNone) w := fun w a n c n' c' => Lib.run_eql_slice_nil w _ _ a n c n' c' Tryz.underlying22
  have hrd' := Lib.hid (hrd.step ((Below.refl w.heap.size w).alloc (Nat.le_refl _) (Obj.cells #[] 54)))
  have Hl := Lib.hid hl
  clear hl
  go_enter Tryz.func42, Tryz.ntmps42
  go_wp2_with (at_builtin; refine wpList_append_rd _ _ 22 54 6 48 _ w.heap.size elems_comps rfl rfl _ 0 [] rfl (World.ownsRow_made w #[] 0 (Nat.le_refl _) (by decide) rfl) (some ⟨g, o, none⟩) n cap vals rfl Hl.out hrd'.out hone (by unfold maxLen; omega) (by omega) (by simp) ?_; intro a2 cap2 w2 hown2 hgrow2)
  have hB2 : Below w.heap.size w w2 := Below.grown (by go_grown) hgrow2 (by simp) (fun k e => by cases e; exact Nat.le_refl _)
  simp only [Nat.zero_add, List.nil_append] at hown2
  have hc := Lib.hid hown2
  clear hgrow2 hown2
  go_wp2
  go_returns
  exact ⟨a2, cap2, by simp, hc.out, hB2⟩
set_option maxHeartbeats 400000 in
theorem cloneParts14 (vals : List Value) (n : Nat) (hl : vals.length = n * 16) (hone : ∀ u ∈ vals, u.oneCell' = true) (g o : Nat) (cap : Nat) (w : World) (h1 : 1 ≤ n) (h2 : n ≤ 100000) (hrd : Rd w (some ⟨g, o, none⟩) vals) :
    Calls Tryz.prog 88 #[.slice (some ⟨g, o, none⟩) n cap] w fun e w' => ∃ b cap', e = .returned (.slice b n cap') ∧ w'.ownsRow w.heap.size 83 16 (.slice b n cap') n vals ∧ Below w.heap.size w w' := by
  have qT : ∀ (w : World) (a : Option Addr) (n c n' c' : Nat), (binOp .eql 23 (.slice a n c) (.slice none n' c')).run Tryz.prog w = .ok (.bool a.isNone) w := fun w a n c n' c' => Lib.run_eql_slice_nil w _ _ a n c n' c' Tryz.underlying23
  have hrd' := Lib.hid (hrd.step ((Below.refl w.heap.size w).alloc (Nat.le_refl _) (Obj.cells #[] 83)))
  have Hl := Lib.hid hl
  clear hl
  go_enter Tryz.func88, Tryz.ntmps88
  go_wp2_with (at_builtin; refine wpList_append_rd _ _ 23 83 16 240 _ w.heap.size elems_parts rfl rfl _ 0 [] rfl (World.ownsRow_made w #[] 0 (Nat.le_refl _) (by decide) rfl) (some ⟨g, o, none⟩) n cap vals rfl Hl.out hrd'.out hone (by unfold maxLen; omega) (by omega) (by simp) ?_; intro a2 cap2 w2 hown2 hgrow2)
  have hB2 : Below w.heap.size w w2 := Below.grown (by go_grown) hgrow2 (by simp) (fun k e => by cases e; exact Nat.le_refl _)
  simp only [Nat.zero_add, List.nil_append] at hown2
  have hc := Lib.hid hown2
  clear hgrow2 hown2
  go_wp2
  go_returns
  exact ⟨a2, cap2, by simp, hc.out, hB2⟩
set_option maxHeartbeats 400000 in
theorem cloneU32s14 (vals : List Value) (n : Nat) (hl : vals.length = n * 1) (hone : ∀ u ∈ vals, u.oneCell' = true) (g o : Nat) (cap : Nat) (w : World) (h1 : 1 ≤ n) (h2 : n ≤ 100000) (hrd : Rd w (some ⟨g, o, none⟩) vals) :
    Calls Tryz.prog 60 #[.slice (some ⟨g, o, none⟩) n cap] w fun e w' => ∃ b cap', e = .returned (.slice b n cap') ∧ w'.ownsRow w.heap.size 109 1 (.slice b n cap') n vals ∧ Below w.heap.size w w' := by
  have qT : ∀ (w : World) (a : Option Addr) (n c n' c' : Nat), (binOp .eql 24 (.slice a n c) (.slice none n' c')).run Tryz.prog w = .ok (.bool a.isNone) w := fun w a n c n' c' => Lib.run_eql_slice_nil w _ _ a n c n' c' Tryz.underlying24
  have hrd' := Lib.hid (hrd.step ((Below.refl w.heap.size w).alloc (Nat.le_refl _) (Obj.cells #[] 109)))
  have Hl := Lib.hid hl
  clear hl
  go_enter Tryz.func60, Tryz.ntmps60
  go_wp2_with (at_builtin; refine wpList_append_rd _ _ 24 109 1 4 _ w.heap.size elems_u32 rfl rfl _ 0 [] rfl (World.ownsRow_made w #[] 0 (Nat.le_refl _) (by decide) rfl) (some ⟨g, o, none⟩) n cap vals rfl Hl.out hrd'.out hone (by unfold maxLen; omega) (by omega) (by simp) ?_; intro a2 cap2 w2 hown2 hgrow2)
  have hB2 : Below w.heap.size w w2 := Below.grown (by go_grown) hgrow2 (by simp) (fun k e => by cases e; exact Nat.le_refl _)
  simp only [Nat.zero_add, List.nil_append] at hown2
  have hc := Lib.hid hown2
  clear hgrow2 hown2
  go_wp2
  go_returns
  exact ⟨a2, cap2, by simp, hc.out, hB2⟩
set_option maxHeartbeats 400000 in
theorem cloneCtrs14 (vals : List Value) (n : Nat) (hl : vals.length = n * 2) (hone : ∀ u ∈ vals, u.oneCell' = true) (g o : Nat) (cap : Nat) (w : World) (h1 : 1 ≤ n) (h2 : n ≤ 100000) (hrd : Rd w (some ⟨g, o, none⟩) vals) :
    Calls Tryz.prog 197 #[.slice (some ⟨g, o, none⟩) n cap] w fun e w' => ∃ b cap', e = .returned (.slice b n cap') ∧ w'.ownsRow w.heap.size 170 2 (.slice b n cap') n vals ∧ Below w.heap.size w w' := by
  have qT : ∀ (w : World) (a : Option Addr) (n c n' c' : Nat), (binOp .eql 73 (.slice a n c) (.slice none n' c')).run Tryz.prog w = .ok (.bool a.isNone) w := fun w a n c n' c' => Lib.run_eql_slice_nil w _ _ a n c n' c' Tryz.underlying73
  have hrd' := Lib.hid (hrd.step ((Below.refl w.heap.size w).alloc (Nat.le_refl _) (Obj.cells #[] 170)))
  have Hl := Lib.hid hl
  clear hl
  go_enter Tryz.func197, Tryz.ntmps197
  go_wp2_with (at_builtin; refine wpList_append_rd _ _ 73 170 2 16 _ w.heap.size elems_ctrs14 rfl rfl _ 0 [] rfl (World.ownsRow_made w #[] 0 (Nat.le_refl _) (by decide) rfl) (some ⟨g, o, none⟩) n cap vals rfl Hl.out hrd'.out hone (by unfold maxLen; omega) (by omega) (by simp) ?_; intro a2 cap2 w2 hown2 hgrow2)
  have hB2 : Below w.heap.size w w2 := Below.grown (by go_grown) hgrow2 (by simp) (fun k e => by cases e; exact Nat.le_refl _)
  simp only [Nat.zero_add, List.nil_append] at hown2
  have hc := Lib.hid hown2
  clear hgrow2 hown2
  go_wp2
  go_returns
  exact ⟨a2, cap2, by simp, hc.out, hB2⟩
set_option maxHeartbeats 400000 in
theorem indexCts14_any (F : FuncId) (hF : ∀ args w, (callFunc F args).run Tryz.prog w = .ok (.enter F args) w) (c : Value) (test : Int × Int → Bool) (w : World) (xs : List (Int × Int))
    (hv : ∀ x W, Below w.heap.size w W → Calls Tryz.prog F #[.agg #[.int .i64 x.1, .int .i64 x.2], c] W fun e w' => e = .returned (.bool (test x)) ∧ Below W.heap.size W w') (a : Option Addr) (cap : Nat) (hlen : xs.length ≤ 100000) (hrd : Rd w a (Cts xs)) :
    Calls Tryz.prog 206 #[.slice a xs.length cap, .func (.func F) #[] #[c]] w fun e w' => ∃ r : Int, e = .returned (.int .i64 r) ∧ decide (0 ≤ r) = xs.any test ∧ Below w.heap.size w w' := by
  have Hv := Lib.hid hv
  clear hv
  go_enter Tryz.func206, Tryz.ntmps206
  go_wp2
  go_loopw [8] (fun i wr => ∃ k : Nat, k ≤ xs.length ∧ i = .int .i64 k ∧ (xs.take k).any test = false ∧ Below w.heap.size w wr) (fun i _ => xs.length - (intOf i).toNat)
  case atStart => exact ⟨0, by omega, rfl, rfl, Below.refl _ _⟩
  case round =>
    obtain ⟨k, hk, rfl, hno, hB⟩ := hrel
    have zr : w.heap.size ≤ wr.heap.size := hB.size
    have Hno := Lib.hid hno
    clear hno
    by_cases hlt : k < xs.length
    · obtain ⟨g, o, rfl, hcs⟩ := (hrd.step hB) (fun e => by have := congrArg List.length e; rw [Cts_length] at this; simp at this; omega)
      have hc0 := hcs (k * 2) _ (Cts_at hlt).1
      have hc1 := hcs (k * 2 + 1) _ (Cts_at hlt).2
      have HT := Lib.hid (Hv.out xs[k] wr hB)
      have Hs := Lib.hid (any_take_succ test xs k hlt)
      have Ha := Lib.hid (any_of_at test xs k hlt)
      obtain ⟨x, hx⟩ : ∃ x, xs[k] = x := ⟨_, rfl⟩
      rw [hx] at hc0 hc1 HT Hs Ha
      clear hcs hx
      obtain ⟨x0, x1⟩ := x
      simp only at hc0 hc1 HT
      rw [← Nat.add_assoc] at hc1
      cases ht : test (x0, x1) with
      | true =>
        have Hany := Lib.hid (Ha.out ht)
        rw [ht] at HT
        clear ht
        go_wp2_with fail
        refine HT.out.mono ?_
        rintro e w1 ⟨rfl, hb1⟩
        have hB1 := below_trans hB hb1
        go_wp2
        go_returns
        exact ⟨_, rfl, by rw [Hany.out]; simp, hB1⟩
      | false =>
        have Hn := Lib.hid (show (xs.take (k + 1)).any test = false by rw [Hs.out, Hno.out, ht]; rfl)
        rw [ht] at HT
        clear ht
        go_wp2_with fail
        refine HT.out.mono ?_
        rintro e w1 ⟨rfl, hb1⟩
        have hB1 := below_trans hB hb1
        go_wp2
        go_roundw
        case rel => exact ⟨k + 1, by omega, by go_num, Hn.out, hB1⟩
        case measure => simp [intOf]; omega
    · obtain rfl : k = xs.length := by omega
      go_wp2
      go_returns
      refine ⟨_, rfl, ?_, hB⟩
      have := Hno.out
      rw [List.take_length] at this
      rw [this]; rfl
set_option maxHeartbeats 400000 in
theorem containsCts14_any (F : FuncId) (hF : ∀ args w, (callFunc F args).run Tryz.prog w = .ok (.enter F args) w) (c : Value) (test : Int × Int → Bool) (w : World) (xs : List (Int × Int))
    (hv : ∀ x W, Below w.heap.size w W → Calls Tryz.prog F #[.agg #[.int .i64 x.1, .int .i64 x.2], c] W fun e w' => e = .returned (.bool (test x)) ∧ Below W.heap.size W w') (a : Option Addr) (cap : Nat) (hlen : xs.length ≤ 100000) (hrd : Rd w a (Cts xs)) :
    Calls Tryz.prog 200 #[.slice a xs.length cap, .func (.func F) #[] #[c]] w fun e w' => e = .returned (.bool (xs.any test)) ∧ Below w.heap.size w w' := by
  have HI := Lib.hid (indexCts14_any F hF c test w xs hv a cap hlen hrd)
  clear hv
  obtain ⟨b, hb⟩ : ∃ b, xs.any test = b := ⟨_, rfl⟩
  rw [hb] at HI ⊢
  clear hb
  go_enter Tryz.func200, Tryz.ntmps200
  go_wp2_with fail
  refine HI.out.mono ?_
  rintro e w1 ⟨r, rfl, hr, hb1⟩
  go_wp2
  go_returns
  exact ⟨by first | rfl | exact ret_bool hr, hb1⟩
/-- What rightTable says. -/
def S14.badC (limit : Int) (c : Int × Int) : Bool := decide (S08.check c.1 c.2 limit ≠ 0)
theorem badC14_any (limit : Int) (x : Int × Int) (B : Nat) (w : World) (hB : w.cell? ⟨B, 0, none⟩ = some (.int .i64 limit)) :
    Calls Tryz.prog 201 #[.agg #[.int .i64 x.1, .int .i64 x.2], .pointer (some ⟨B, 0, none⟩)] w fun e w' => e = .returned (.bool (S14.badC limit x)) ∧ Below w.heap.size w w' := by
  have HC := Lib.hid fun W => check08_any x.1 x.2 limit W
  have hlB := block_lt_of_cell hB
  unfold S14.badC
  obtain ⟨x0, x1⟩ := x
  simp only at HC hlB ⊢
  obtain ⟨r, hr⟩ : ∃ r, S08.check x0 x1 limit = r := ⟨_, rfl⟩
  rw [hr] at HC ⊢
  clear hr
  go_enter Tryz.func201, Tryz.ntmps201
  go_wp2_with fail
  refine (HC.out _).mono ?_
  rintro e w1 ⟨rfl, hb1⟩
  have hB1 : Below w.heap.size w w1 := below_trans (by go_grown) hb1
  go_wp2
  go_returns
  exact ⟨ret_bool (by by_cases h : r = 0 <;> simp [h]), hB1⟩
set_option maxHeartbeats 400000 in
theorem rightTable14_any (xs : List (Int × Int)) (n : Nat) (limit : Int) (a : Option Addr) (cap : Nat) (w : World) (hn : n ≤ 65536) (hrd : Rd w a (Cts xs)) :
    Calls Tryz.prog 195 #[.slice a xs.length cap, .int .i64 (n : Int), .int .i64 limit] w fun e w' => e = .returned (.bool (decide (xs.length = n) && !xs.any (S14.badC limit))) ∧ Below w.heap.size w w' := by
  have B1 : Below w.heap.size w (w.alloc (.cells #[.int .i64 limit] 3)) := (Below.refl _ _).alloc (Nat.le_refl _) _
  have k1 : Blk (w.alloc (.cells #[.int .i64 limit] 3)) w.heap.size [.int .i64 limit] 3 := Blk.new w _ _
  by_cases hl : xs.length = n
  · have HC := Lib.hid (containsCts14_any 201 (enters_of Tryz.func201 (by kernel_rfl) rfl) (.pointer (some ⟨w.heap.size, 0, none⟩)) (S14.badC limit) (w.alloc (.cells #[.int .i64 limit] 3)) xs
      (fun x W hW => badC14_any limit x w.heap.size W ((k1.step hW).cell 0)) a cap (by omega) (hrd.step B1))
    obtain ⟨q, hq⟩ : ∃ q, xs.any (S14.badC limit) = q := ⟨_, rfl⟩
    rw [hq] at HC ⊢
    rw [decide_eq_true hl, Bool.true_and]
    rw [hl] at HC ⊢
    clear hl hq hrd
    have e1 : ((n : Int) == (n : Int)) = true := by simp
    go_enter Tryz.func195, Tryz.ntmps195
    go_wp2_with fail
    refine HC.out.mono ?_
    rintro e w1 ⟨rfl, hb1⟩
    have hB1 := below_trans B1 hb1
    go_wp2
    go_returns
    exact ⟨rfl, hB1⟩
  · rw [decide_eq_false hl, Bool.false_and]
    have e1 : ((xs.length : Int) == (n : Int)) = false := by simp; omega
    go_enter Tryz.func195, Tryz.ntmps195
    go_wp2
    go_returns
    exact ⟨rfl, B1⟩
end Go.Proofs.YtieeogndnhighaaGreat
set_option linter.unusedSimpArgs false
set_option linter.unusedVariables false
set_option linter.unusedSectionVars false
namespace Go.Proofs.YtieeogndnhighaaGreat
open Go.RowKit
/-- Whatever lies below lo, or at hi or beyond, lies as it lay. -/
structure Kept (lo hi : Nat) (w w' : World) : Prop where
  os : w'.os = w.os
  tape : w'.tape = w.tape
  output : w'.output = w.output
  size : w.heap.size ≤ w'.heap.size
  same : ∀ k, k < lo ∨ hi ≤ k → k < w.heap.size → w'.heap[k]? = w.heap[k]?
theorem Kept.refl (lo hi : Nat) (w : World) : Kept lo hi w w := ⟨rfl, rfl, rfl, Nat.le_refl _, fun _ _ _ => rfl⟩
theorem Kept.trans {lo hi : Nat} {a b c : World} (h : Kept lo hi a b) (k : Kept lo hi b c) : Kept lo hi a c :=
  ⟨k.os.trans h.os, k.tape.trans h.tape, k.output.trans h.output, Nat.le_trans h.size k.size, fun i hi hl => (k.same i hi (Nat.lt_of_lt_of_le hl h.size)).trans (h.same i hi hl)⟩
theorem Kept.below {lo hi : Nat} {a b : World} (h : Below a.heap.size a b) : Kept lo hi a b := ⟨h.os, h.tape, h.output, h.size, fun k _ hk => h.block k hk⟩
theorem Kept.row {lo hi b : Nat} {w w' : World} (h : w.grownBy w' (some b)) (h1 : lo ≤ b) (h2 : b < hi) : Kept lo hi w w' :=
  ⟨h.os, h.tape, h.output, h.size, fun k hk hl => h.block k hl (fun e => by have := Option.some.inj e; omega)⟩
theorem Kept.toBelow {lo hi : Nat} {w0 w w' : World} (h : Kept lo hi w w') (hb : Below w0.heap.size w0 w) (hl : w0.heap.size ≤ lo) : Below w0.heap.size w0 w' :=
  ⟨h.os.trans hb.os, h.tape.trans hb.tape, h.output.trans hb.output, Nat.le_trans hb.size h.size, fun k hk => (h.same k (.inl (by omega)) (Nat.lt_of_lt_of_le hk hb.size)).trans (hb.block k hk)⟩
theorem Kept.mono {lo hi lo' hi' : Nat} {w w' : World} (h : Kept lo hi w w') (h1 : lo' ≤ lo) (h2 : hi ≤ hi') : Kept lo' hi' w w' :=
  ⟨h.os, h.tape, h.output, h.size, fun k hk hl => h.same k (by omega) hl⟩
theorem Rd.kept {lo hi : Nat} {w w' : World} {a : Option Addr} {vals : List Value} (h : Rd w a vals) (hk : Kept lo hi w w') (hf : ∀ g o, a = some ⟨g, o, none⟩ → g < lo ∨ hi ≤ g) : Rd w' a vals := fun hn => by
  obtain ⟨g, o, rfl, hcs⟩ := h hn
  refine ⟨g, o, rfl, fun j v hv => ?_⟩
  have hc := hcs j v hv
  have hb := hk.same g (hf g o rfl) (block_lt_of_cell hc)
  unfold World.cell? at hc ⊢
  rw [hb]; exact hc
/-- Whatever happens in between, the part lies in the world. -/
def PRob (lo hi : Nat) (p : S14.P) (y : Lay) (w : World) : Prop := ∀ w', Kept lo hi w w' → PIs p y w'
theorem PRob.is {lo hi : Nat} {p : S14.P} {y : Lay} {w : World} (h : PRob lo hi p y w) : PIs p y w := h w (Kept.refl _ _ _)
theorem PRob.kept {lo hi : Nat} {p : S14.P} {y : Lay} {w w' : World} (h : PRob lo hi p y w) (hk : Kept lo hi w w') : PRob lo hi p y w' := fun w2 h2 => h w2 (hk.trans h2)
theorem PRob.mono {lo hi lo' hi' : Nat} {p : S14.P} {y : Lay} {w : World} (h : PRob lo hi p y w) (h1 : lo ≤ lo') (h2 : hi' ≤ hi) : PRob lo' hi' p y w := fun w2 h3 => h w2 (h3.mono h1 h2)
theorem PRob.zero (lo hi : Nat) (w : World) : PRob lo hi S14.P0 Lay0 w := fun w' _ => PIs.zero w'
end Go.Proofs.YtieeogndnhighaaGreat
set_option linter.unusedSimpArgs false
set_option linter.unusedVariables false
set_option linter.unusedSectionVars false
namespace Go.Proofs.YtieeogndnhighaaGreat
open Go.RowKit
def zN : Array Value := #[.slice none 0 0, .slice none 0 0, .slice none 0 0, .int .i64 0]
set_option maxRecDepth 100000 in
theorem info_N : (Tryz.prog.info? 26).map (·.size) = some 4 := by kernel_rfl
/-- An own list of parts. -/
def OwnP (w : World) (base : Nat) (a : Option Addr) (c : Nat) (ps : List S14.P) (ys : List Lay) : Prop := w.ownsRow base 83 16 (.slice a ps.length c) ps.length (PCs ps ys)
theorem owns_keep {w w' : World} {base : Nat} {e : TypeId} {size n : Nat} {v : Value} {xs : List Value} {b : Nat} (h : w.ownsRow base e size v n xs) (hg : w.grownBy w' (some b)) (hb : b < base) : w'.ownsRow base e size v n xs := by
  refine ⟨h.1, ?_⟩
  rcases h.2 with h' | ⟨g, cap', cur, h', hb', hg', r⟩
  · exact .inl h'
  · exact .inr ⟨g, cap', cur, h', hb', (hg.block g (Array.getElem?_eq_some_iff.1 hg').1 (fun e => by have := Option.some.inj e; omega)).trans hg', r⟩
theorem owns_low {w : World} {B B' : Nat} {e : TypeId} {size n : Nat} {v : Value} {xs : List Value} (h : w.ownsRow B e size v n xs) (hb : B' ≤ B) : w.ownsRow B' e size v n xs := by
  refine ⟨h.1, ?_⟩
  rcases h.2 with h' | ⟨g, cap', cur, h', hb', r⟩
  · exact .inl h'
  · exact .inr ⟨g, cap', cur, h', Nat.le_trans hb hb', r⟩
theorem grown_set14 (w : World) (b i : Nat) (v : Value) : w.grownBy (w.setCell ⟨b, i, none⟩ v) (some b) :=
  ⟨rfl, rfl, rfl, by simp, fun j _ hne => heap_setCell_other w ⟨b, i, none⟩ j v (fun e => hne (by rw [e]))⟩
set_option maxRecDepth 100000 in
set_option maxHeartbeats 1000000 in
theorem copied14_any (N : S14.N) (L : NLay) (w : World) (hN : NIs N L w) (h1 : 1 ≤ N.comps.length ∧ N.comps.length ≤ 16) (h2 : N.parts.length = N.comps.length) (h3 : N.ctxs.length = 16) :
    Calls Tryz.prog 57 #[NV N L] w fun e w' => ∃ a1 c1 a2 c2 a3 c3, e = .returned (NV N ⟨a1, c1, a2, c2, a3, c3, L.ys⟩) ∧ w'.ownsRow w.heap.size 54 6 (.slice a1 N.comps.length c1) N.comps.length (Cs14 N.comps) ∧
      OwnP w' w.heap.size a2 c2 N.parts L.ys ∧ w'.ownsRow w.heap.size 109 1 (.slice a3 N.ctxs.length c3) N.ctxs.length (U32s N.ctxs) ∧ Below w.heap.size w w' := by
  obtain ⟨g1, o1, ha1, _⟩ := hN.rc (fun e => by have h := congrArg List.length e; rw [Cs14_length, List.length_nil] at h; omega)
  obtain ⟨g2, o2, ha2, _⟩ := hN.rp (fun e => by have h := congrArg List.length e; rw [PCs_length _ _ hN.ly, List.length_nil] at h; omega)
  obtain ⟨g3, o3, ha3, _⟩ := hN.rx (fun e => by have h := congrArg List.length e; rw [U32s_length, List.length_nil] at h; omega)
  have r1 := hN.rc
  have r2 := hN.rp
  have r3 := hN.rx
  have hly := PCs_length _ _ hN.ly
  rw [ha1] at r1
  rw [ha2] at r2
  rw [ha3] at r3
  have H1 := Lib.hid fun (W : World) (hW : Below w.heap.size w W) => cloneComps14 (Cs14 N.comps) N.comps.length (by rw [Cs14_length, Nat.mul_comm]) (Cs14_one _) g1 o1 L.c1 W h1.1 (by omega) (r1.step hW)
  have H2 := Lib.hid fun (W : World) (hW : Below w.heap.size w W) => cloneParts14 (PCs N.parts L.ys) N.parts.length (by rw [hly, Nat.mul_comm]) (PCs_one _ _) g2 o2 L.c2 W (by omega) (by omega) (r2.step hW)
  have H3 := Lib.hid fun (W : World) (hW : Below w.heap.size w W) => cloneU32s14 (U32s N.ctxs) N.ctxs.length (by rw [U32s_length, Nat.mul_one]) (U32s_one _) g3 o3 L.c3 W (by omega) (by omega) (r3.step hW)
  unfold NV NVals OwnP
  simp only
  rw [ha1, ha2, ha3]
  obtain ⟨V1, hV1⟩ : ∃ v, Cs14 N.comps = v := ⟨_, rfl⟩
  obtain ⟨V2, hV2⟩ : ∃ v, PCs N.parts L.ys = v := ⟨_, rfl⟩
  obtain ⟨V3, hV3⟩ : ∃ v, U32s N.ctxs = v := ⟨_, rfl⟩
  obtain ⟨nc, hnc⟩ : ∃ n, N.comps.length = n := ⟨_, rfl⟩
  obtain ⟨np, hnp⟩ : ∃ n, N.parts.length = n := ⟨_, rfl⟩
  obtain ⟨nx, hnx⟩ : ∃ n, N.ctxs.length = n := ⟨_, rfl⟩
  obtain ⟨pt, hpt⟩ : ∃ n, N.part = n := ⟨_, rfl⟩
  rw [hV1, hnc] at H1
  rw [hV2, hnp] at H2
  rw [hV3, hnx] at H3
  rw [hV1, hV2, hV3, hnc, hnp, hnx, hpt]
  clear hN r1 r2 r3 hV1 hV2 hV3 hnc hnp hnx hpt h1 h2 h3 hly ha1 ha2 ha3
  obtain ⟨W1, hW1⟩ : ∃ W1, (w.alloc (.cells #[.slice (some ⟨g1, o1, none⟩) nc L.c1, .slice (some ⟨g2, o2, none⟩) np L.c2, .slice (some ⟨g3, o3, none⟩) nx L.c3, .int .i64 pt] 26)).alloc (.cells zN 26) = W1 := ⟨_, rfl⟩
  have k1 : Blk W1 w.heap.size [.slice (some ⟨g1, o1, none⟩) nc L.c1, .slice (some ⟨g2, o2, none⟩) np L.c2, .slice (some ⟨g3, o3, none⟩) nx L.c3, .int .i64 pt] 26 := by rw [← hW1]; exact (Blk.new w _ _).alloc _
  have k2 : Blk W1 (w.heap.size + 1) [.slice none 0 0, .slice none 0 0, .slice none 0 0, .int .i64 0] 26 := by
    rw [← hW1]
    have h := Blk.new (w.alloc (.cells #[.slice (some ⟨g1, o1, none⟩) nc L.c1, .slice (some ⟨g2, o2, none⟩) np L.c2, .slice (some ⟨g3, o3, none⟩) nx L.c3, .int .i64 pt] 26)) [.slice none 0 0, .slice none 0 0, .slice none 0 0, .int .i64 0] 26
    rwa [World.size_alloc] at h
  have B1 : Below w.heap.size w W1 := by rw [← hW1]; exact ((Below.refl _ _).alloc (Nat.le_refl _) _).alloc (by simp) _
  have hz1 := k2.lt
  unfold zN at hW1
  have hCS : Cells W1 [(⟨w.heap.size, 0, none⟩, .slice (some ⟨g1, o1, none⟩) nc L.c1), (⟨w.heap.size, 1, none⟩, .slice (some ⟨g2, o2, none⟩) np L.c2), (⟨w.heap.size, 2, none⟩, .slice (some ⟨g3, o3, none⟩) nx L.c3)] := ⟨k1.cell 0, k1.cell 1, k1.cell 2, trivial⟩
  go_enter Tryz.func57, Tryz.ntmps57
  go_wp2_with (rw [hW1])
  refine wp_region_plan 10 5 (.read 0 (.read 1 (.read 3 (.read 4 (.read 6 (.read 7 (.one 2 (.read 9 (.one 5 (.one 8 .done)))))))))) _ _ o0P (Keeps W1 [(⟨w.heap.size, 0, none⟩, .slice (some ⟨g1, o1, none⟩) nc L.c1), (⟨w.heap.size, 1, none⟩, .slice (some ⟨g2, o2, none⟩) np L.c2), (⟨w.heap.size, 2, none⟩, .slice (some ⟨g3, o3, none⟩) nx L.c3)]) (by kernel_rfl) (List.take_append_drop 10 _).symm (by kernel_rfl) (by kernel_rfl) (by kernel_rfl) (by kernel_rfl) (Keeps.start hCS) (fun Y Q4 F4 hY hF => ?_)
  simp only [Plan.map, List.take_succ_cons, List.take_zero, List.drop_succ_cons, List.drop_zero, List.getD_cons_zero, List.getD_cons_succ]
  repeat
    apply wpPlan_read (by first | rfl | (rw [hY]; rfl))
    · intro w2 hS2
      (try simp only [Keeps, Cells] at hS2)
      (try simp only [HasC, Cells] at hS2)
      go_simp
      with_reducible rfl
    simp only [Act.put, List.setIfInBounds_toArray, List.set_cons_zero, List.set_cons_succ]
  apply wpPlan_call (by first | rfl | (rw [hY]; rfl))
  · go_simp
    with_reducible exact ⟨rfl, rfl⟩
  refine (H1.out _ (below_trans B1 (Keeps.start hCS).1)).mono ?_
  rintro e w2 ⟨a1, c1, rfl, own1, hb2⟩
  have hk2 := (Keeps.start hCS).step hb2
  refine ⟨_, rfl, hk2, ?_⟩
  simp only [Act.put, List.setIfInBounds_toArray, List.set_cons_zero, List.set_cons_succ]
  repeat
    apply wpPlan_read (by first | rfl | (rw [hY]; rfl))
    · intro w2 hS2
      (try simp only [Keeps, Cells] at hS2)
      (try simp only [HasC, Cells] at hS2)
      go_simp
      with_reducible rfl
    simp only [Act.put, List.setIfInBounds_toArray, List.set_cons_zero, List.set_cons_succ]
  apply wpPlan_call (by first | rfl | (rw [hY]; rfl))
  · go_simp
    with_reducible exact ⟨rfl, rfl⟩
  refine (H2.out _ (below_trans B1 hk2.1)).mono ?_
  rintro e w3 ⟨a2, c2, rfl, own2, hb3⟩
  have hk3 := hk2.step hb3
  refine ⟨_, rfl, hk3, ?_⟩
  simp only [Act.put, List.setIfInBounds_toArray, List.set_cons_zero, List.set_cons_succ]
  apply wpPlan_call (by first | rfl | (rw [hY]; rfl))
  · go_simp
    with_reducible exact ⟨rfl, rfl⟩
  refine (H3.out _ (below_trans B1 hk3.1)).mono ?_
  rintro e w4 ⟨a3, c3, rfl, own3, hb4⟩
  have hk4 := hk3.step hb4
  refine ⟨_, rfl, hk4, ?_⟩
  simp only [Act.put, List.setIfInBounds_toArray, List.set_cons_zero, List.set_cons_succ]
  refine wpPlan_done (hF.out _ _ (fun K hK => ?_))
  clear hF hY
  have z4 := hk4.1.size
  have z3 := hk3.1.size
  have z2 := hk2.1.size
  have hd4 : w.heap.size + 1 < W1.heap.size := hz1
  have hdd : W1.drew.heap.size = W1.heap.size := rfl
  have p1 := owns_step (B := 0) (owns_step (B := 0) own1 hb3) hb4
  have p2 := owns_step (B := 0) own2 hb4
  have p3 := own3
  have B4 := below_trans B1 hk4.1
  have kn := k1.step hk4.1
  have kr := k2.step hk4.1
  clear hk2 hk3 hk4 own1 own2 own3 hb2 hb3 hb4 hCS k1 k2
  have s1 := ((kn.set 0 (.slice a1 nc c1)).set 1 (.slice a2 np c2)).set 2 (.slice a3 nx c3)
  have f0 := kn.cell 0
  have f0f := kn.free 0
  have f1 := (kn.set 0 (.slice a1 nc c1)).cell 1
  have f1f := (kn.set 0 (.slice a1 nc c1)).free 1
  have f2 := ((kn.set 0 (.slice a1 nc c1)).set 1 (.slice a2 np c2)).cell 2
  have f2f := ((kn.set 0 (.slice a1 nc c1)).set 1 (.slice a2 np c2)).free 2
  simp only [List.set_cons_zero, List.set_cons_succ, List.getElem?_cons_zero, List.getElem?_cons_succ] at s1 f0 f1 f2
  have kr1 := ((kr.other w.heap.size 0 (.slice a1 nc c1) (by omega)).other w.heap.size 1 (.slice a2 np c2) (by omega)).other w.heap.size 2 (.slice a3 nx c3) (by omega)
  have B5 : Below w.heap.size w (((w4.setCell ⟨w.heap.size, 0, none⟩ (.slice a1 nc c1)).setCell ⟨w.heap.size, 1, none⟩ (.slice a2 np c2)).setCell ⟨w.heap.size, 2, none⟩ (.slice a3 nx c3)) :=
    ((B4.setCell (p := ⟨w.heap.size, 0, none⟩) (by simp) _).setCell (p := ⟨w.heap.size, 1, none⟩) (by simp) _).setCell (p := ⟨w.heap.size, 2, none⟩) (by simp) _
  have step3 : ∀ {base : Nat} {e : TypeId} {size n : Nat} {v : Value} {xs : List Value}, w4.ownsRow base e size v n xs → w.heap.size < base → (((w4.setCell ⟨w.heap.size, 0, none⟩ (.slice a1 nc c1)).setCell ⟨w.heap.size, 1, none⟩ (.slice a2 np c2)).setCell ⟨w.heap.size, 2, none⟩ (.slice a3 nx c3)).ownsRow base e size v n xs := fun h hb =>
    owns_keep (owns_keep (owns_keep h (grown_set14 _ _ _ _) hb) (grown_set14 _ _ _ _) hb) (grown_set14 _ _ _ _) hb
  have P1 := Lib.hid (step3 p1 (by omega))
  have P2 := Lib.hid (step3 p2 (by omega))
  have P3 := Lib.hid (step3 p3 (by omega))
  clear p1 p2 p3 step3
  go_wp2_with fail
  refine OnlyK.mk (hK.out _ _ ?_)
  clear hK
  obtain ⟨w5, hw5⟩ : ∃ w5, ((w4.setCell ⟨w.heap.size, 0, none⟩ (.slice a1 nc c1)).setCell ⟨w.heap.size, 1, none⟩ (.slice a2 np c2)).setCell ⟨w.heap.size, 2, none⟩ (.slice a3 nx c3) = w5 := ⟨_, rfl⟩
  rw [hw5] at s1 kr1 B5 P1 P2 P3 ⊢
  clear hw5 f0 f0f f1 f1f f2 f2f kn kr
  go_wp2_with (first
    | (refine wpList_loadB 26 (.tmp 1) (by rfl) (by rfl) w.heap.size (by rfl) [.slice a1 nc c1, .slice a2 np c2, .slice a3 nx c3, .int .i64 pt] 26 s1 _ Tryz.underlying26 rfl info_N ?_)
    | (refine wpList_storeB 26 (.tmp 2) (.tmp 15) (by rfl) (by rfl) (w.heap.size + 1) (by rfl) [.slice a1 nc c1, .slice a2 np c2, .slice a3 nx c3, .int .i64 pt] (by rfl) _ 26 kr1 info_N rfl (by simp [Value.oneCell']) ?_
       intro wL EL gL sL))
  have hL := run_loadVar_mid wL _ 0 _ _ _ EL.cells Tryz.underlying26 rfl info_N
  refine bodyPost_ret (v := .agg #[.slice a1 nc c1, .slice a2 np c2, .slice a3 nx c3, .int .i64 pt]) ?_ rfl ?_
  · exact results_cell (show Tryz.f57.results = #[.cell 2 26] from rfl) (p := ⟨w.heap.size + 1, 0, none⟩) rfl hL
  · exact ⟨a1, c1, a2, c2, a3, c3, rfl, owns_low (owns_keep P1.out gL (by omega)) (by omega), owns_low (owns_keep P2.out gL (by omega)) (by omega), owns_low (owns_keep P3.out gL (by omega)) (by omega), B5.trans (rowBelow gL (by omega) B5.size)⟩
end Go.Proofs.YtieeogndnhighaaGreat
set_option linter.unusedSimpArgs false
set_option linter.unusedVariables false
set_option linter.unusedSectionVars false
namespace Go.Proofs.YtieeogndnhighaaGreat
open Go.RowKit
/-- Whatever lies outside the blocks X lies as it lay. -/
structure KepX (X : Nat → Prop) (w w' : World) : Prop where
  os : w'.os = w.os
  tape : w'.tape = w.tape
  output : w'.output = w.output
  size : w.heap.size ≤ w'.heap.size
  same : ∀ k, ¬ X k → k < w.heap.size → w'.heap[k]? = w.heap[k]?
theorem KepX.refl (X : Nat → Prop) (w : World) : KepX X w w := ⟨rfl, rfl, rfl, Nat.le_refl _, fun _ _ _ => rfl⟩
theorem KepX.trans {X : Nat → Prop} {a b c : World} (h : KepX X a b) (k : KepX X b c) : KepX X a c :=
  ⟨k.os.trans h.os, k.tape.trans h.tape, k.output.trans h.output, Nat.le_trans h.size k.size, fun i hi hl => (k.same i hi (Nat.lt_of_lt_of_le hl h.size)).trans (h.same i hi hl)⟩
theorem KepX.below {X : Nat → Prop} {a b : World} (h : Below a.heap.size a b) : KepX X a b := ⟨h.os, h.tape, h.output, h.size, fun k _ hk => h.block k hk⟩
theorem KepX.row {X : Nat → Prop} {w w' : World} {row : Option Nat} (h : w.grownBy w' row) (h1 : ∀ b, row = some b → X b ∨ w.heap.size ≤ b) : KepX X w w' :=
  ⟨h.os, h.tape, h.output, h.size, fun k hk hl => h.block k hl (fun e => (h1 k e.symm).elim hk (fun h => by omega))⟩
theorem KepX.rowB {X : Nat → Prop} {w0 w w' : World} {row : Option Nat} (hk : KepX X w0 w) (h : w.grownBy w' row) (h1 : ∀ b, row = some b → X b ∨ w0.heap.size ≤ b) : KepX X w0 w' :=
  ⟨h.os.trans hk.os, h.tape.trans hk.tape, h.output.trans hk.output, Nat.le_trans hk.size h.size, fun k hk2 hl => (h.block k (Nat.lt_of_lt_of_le hl hk.size) (fun e => (h1 k e.symm).elim hk2 (fun h => by omega))).trans (hk.same k hk2 hl)⟩
theorem KepX.toBelow {X : Nat → Prop} {w0 w w' : World} (h : KepX X w w') (hb : Below w0.heap.size w0 w) (hl : ∀ k, X k → w0.heap.size ≤ k) : Below w0.heap.size w0 w' :=
  ⟨h.os.trans hb.os, h.tape.trans hb.tape, h.output.trans hb.output, Nat.le_trans hb.size h.size, fun k hk => (h.same k (fun hx => by have := hl k hx; omega) (Nat.lt_of_lt_of_le hk hb.size)).trans (hb.block k hk)⟩
theorem KepX.mono {X X' : Nat → Prop} {w w' : World} (h : KepX X w w') (h1 : ∀ k, k < w.heap.size → X k → X' k) : KepX X' w w' :=
  ⟨h.os, h.tape, h.output, h.size, fun k hk hl => h.same k (fun hx => hk (h1 k hl hx)) hl⟩
theorem KepX.toKept {X : Nat → Prop} {lo hi : Nat} {w w' : World} (h : KepX X w w') (h1 : ∀ k, k < w.heap.size → X k → lo ≤ k ∧ k < hi) : Kept lo hi w w' :=
  ⟨h.os, h.tape, h.output, h.size, fun k hk hl => h.same k (fun hx => by have := h1 k hl hx; omega) hl⟩
theorem Rd.kepX {X : Nat → Prop} {w w' : World} {a : Option Addr} {vals : List Value} (h : Rd w a vals) (hk : KepX X w w') (hf : ∀ g o, a = some ⟨g, o, none⟩ → ¬ X g) : Rd w' a vals := fun hn => by
  obtain ⟨g, o, rfl, hcs⟩ := h hn
  refine ⟨g, o, rfl, fun j v hv => ?_⟩
  have hc := hcs j v hv
  have hb := hk.same g (hf g o rfl) (block_lt_of_cell hc)
  unfold World.cell? at hc ⊢
  rw [hb]; exact hc
theorem Blk.kepX {X : Nat → Prop} {w w' : World} {b : Nat} {cs : List Value} {t : TypeId} (h : Blk w b cs t) (hk : KepX X w w') (hb : ¬ X b) : Blk w' b cs t := by
  have hl := h.lt
  unfold Blk at *
  rw [hk.same b hb hl]; exact h
/-- Whatever happens in the blocks X, the part lies in the world. -/
def PRobX (X : Nat → Prop) (p : S14.P) (y : Lay) (w : World) : Prop := ∀ w', KepX X w w' → PIs p y w'
theorem PRobX.is {X : Nat → Prop} {p : S14.P} {y : Lay} {w : World} (h : PRobX X p y w) : PIs p y w := h w (KepX.refl _ _)
theorem PRobX.kep {X : Nat → Prop} {p : S14.P} {y : Lay} {w w' : World} (h : PRobX X p y w) (hk : KepX X w w') : PRobX X p y w' := fun w2 h2 => h w2 (hk.trans h2)
theorem PRobX.change {X X' : Nat → Prop} {p : S14.P} {y : Lay} {w : World} (h : PRobX X p y w) (h1 : ∀ k, k < w.heap.size → X' k → X k) : PRobX X' p y w := fun w2 h3 => h w2 (h3.mono h1)
theorem PRobX.append {X X' : Nat → Prop} {p : S14.P} {y : Lay} {w w' : World} {row : Option Nat} (h : PRobX X p y w) (hg : w.grownBy w' row) (h1 : ∀ b, row = some b → X b) (h2 : ∀ k, k < w.heap.size → X' k → X k) : PRobX X' p y w' := fun w2 h3 =>
  h w2 ⟨h3.os.trans hg.os, h3.tape.trans hg.tape, h3.output.trans hg.output, Nat.le_trans hg.size h3.size, fun k hk hl => (h3.same k (fun hx => hk (h2 k hl hx)) (Nat.lt_of_lt_of_le hl hg.size)).trans (hg.block k hl (fun e => hk (h1 k e.symm)))⟩
theorem PRob.toX {lo hi : Nat} {X : Nat → Prop} {p : S14.P} {y : Lay} {w : World} (h : PRob lo hi p y w) (h1 : ∀ k, k < w.heap.size → X k → lo ≤ k ∧ k < hi) : PRobX X p y w := fun w2 h2 => h w2 (h2.toKept h1)
/-- An append, and where its result lies. -/
theorem op_append_at14 {P : Program} {w : World} {o : Oper} {a : Act} (s x : Operand) (t e : TypeId) (size bytes : Nat) (zc : List Value) (base : Nat)
    (he : Elems P t e size bytes zc) (ho : o.op = .call { callee := .builtin .append, args := #[s, x], argTypes := #[t, t] })
    (v : Value) (n : Nat) (xs : List Value) (hs : a.eval s = v) (hown : w.ownsRow base e size v n xs)
    (ad : Addr) (m c : Nat) (news : List Value) (hx : a.eval x = .slice (some ad) m c) (hl : news.length = m * size) (hpos : news ≠ []) (hnews : Rd w (some ad) news) (h1 : ∀ u ∈ news, u.oneCell' = true)
    (h63 : n + m ≤ maxLen) (hbytes : (n + m) * bytes ≤ 140737488355328) (hbase : base ≤ w.heap.size) :
    ∃ a' cap' w', (execOp a.eval o).run P w = .ok (.value (.slice a' (n + m) cap')) w' ∧ w'.ownsRow base e size (.slice a' (n + m) cap') (n + m) (xs ++ news) ∧ w.grownBy w' v.ownBlock ∧
      ((Value.slice a' (n + m) cap').ownBlock = v.ownBlock ∨ (Value.slice a' (n + m) cap').ownBlock = some w.heap.size) := by
  obtain ⟨i, z, hi, hz, hsz, hby, hzs, hzc⟩ := he.open
  have hnews' : ∀ j u, news[j]? = some u → w.cell? (ad.add j) = some u := by
    intro j u hu
    obtain ⟨b, off, e1, hr⟩ := hnews hpos
    cases e1
    rw [Addr.add_mid]; exact hr j u hu
  obtain ⟨v', w', hr, h2, h3, h4, h5⟩ := run_append_own_at (P := P) w base t o.type e i z size bytes he.1 hi hz hsz hby hzs he.2.2.2 v n xs hown ad m c news hl hnews' h1 h63 hbytes hbase
  obtain ⟨a', cap', rfl, _⟩ := owns_slice h2
  refine ⟨a', cap', w', ?_, h2, h3, h5⟩
  unfold execOp
  simp only [ho, resolve, invoke, builtin, Sem.run_bind, Sem.run_pure, Result.andThen_ok, List.map_toArray, List.map_cons, List.map_nil, hs, hx, hr]
theorem wpSeq_append_at14 {P : Program} {Y : Array Value → Nat → Option Bool} {Q : Exit → Act → World → Prop} {S : World → Prop} {o : Oper} {rest : List (Bool × Oper)} {a : Act} {G : Act → World → Prop} {w : World}
    (s x : Operand) (t e : TypeId) (size bytes : Nat) (zc : List Value) (base : Nat) (he : Elems P t e size bytes zc)
    (v : Value) (n : Nat) (xs : List Value) (ad : Addr) (m cap : Nat) (news : List Value) (hw : Region.wanted o (Y a.tmps) = true)
    (ho : o.op = .call { callee := .builtin .append, args := #[s, x], argTypes := #[t, t] }) (hs : a.eval s = v) (hx : a.eval x = .slice (some ad) m cap)
    (hl : news.length = m * size) (hpos : news ≠ []) (h1 : ∀ u ∈ news, u.oneCell' = true) (h63 : n + m ≤ maxLen) (hbytes : (n + m) * bytes ≤ 140737488355328)
    (hown : w.ownsRow base e size v n xs) (hnews : Rd w (some ad) news) (hbase : base ≤ w.heap.size)
    (h : ∀ a' cap' w', w'.ownsRow base e size (.slice a' (n + m) cap') (n + m) (xs ++ news) → w.grownBy w' v.ownBlock → ((Value.slice a' (n + m) cap').ownBlock = v.ownBlock ∨ (Value.slice a' (n + m) cap').ownBlock = some w.heap.size) →
      S w' ∧ wpSeq P Y Q S G rest (a.put o.dst (.slice a' (n + m) cap')) w') : wpSeq P Y Q S G ((false, o) :: rest) a w := by
  obtain ⟨a', cap', w', r1, r2, r3, r4⟩ := op_append_at14 (P := P) (w := w) s x t e size bytes zc base he ho v n xs hs hown ad m cap news hx hl hpos hnews h1 h63 hbytes hbase
  obtain ⟨h4, h5⟩ := h a' cap' w' r2 r3 r4
  exact wpSeq_value hw r1 h4 h5
/-- An own row lies elsewhere than a block of another type. -/
theorem own_apart14 {w : World} {base : Nat} {e t : TypeId} {size n b : Nat} {v : Value} {xs cs : List Value} (h : w.ownsRow base e size v n xs) (hb : Blk w b cs t) (hne : ¬ e = t) : v.ownBlock ≠ some b := by
  intro hg
  obtain ⟨_, cur, hc⟩ := owns_block h hg
  unfold Blk at hb
  rw [hb] at hc
  simp only [Option.some.injEq] at hc
  cases hc
  exact hne rfl
end Go.Proofs.YtieeogndnhighaaGreat
set_option linter.unusedSimpArgs false
set_option linter.unusedVariables false
set_option linter.unusedSectionVars false
namespace Go.Proofs.YtieeogndnhighaaGreat
open Go.RowKit
/-- A store into a whole block, as an effect of a plan. -/
theorem wpPlan_storeB {P : Program} {Y : Array Value → Nat → Option Bool} {Q : Exit → Act → World → Prop} {S : World → Prop} {G : Act → World → Prop} {w : World} {rest : Plan Oper} {o : Oper} {a : Act} (T : TypeId) (x y : Operand) (ho : o.op = .store T x y) (hw : Region.wanted o (Y a.tmps) = true)
    (b : Nat) (hx : a.eval x = .pointer (some ⟨b, 0, none⟩)) (cs : List Value) (hy : a.eval y = .agg cs.toArray) (old : List Value) (t : TypeId) (hB : Blk w b old t) (hi : (P.info? T).map (·.size) = some cs.length) (hold : old.length = cs.length)
    (h1 : ∀ v ∈ cs, v.oneCell' = true) (h : ∀ w', Blk w' b cs t → w.grownBy w' (some b) → w'.heap.size = w.heap.size → S w' ∧ wpPlan P Y Q S G rest (a.put o.dst undef) w') : wpPlan P Y Q S G (.one o rest) a w := by
  obtain ⟨k1, k2⟩ := setRow_blk hB cs.toArray
  unfold wpPlan
  rw [if_pos hw]
  refine .inl (wp_store_row T x y ho b cs.toArray hx hy t old.toArray hB (by simpa using hi) (by simpa using hold) (all_oneCell_toArray h1) (h _ ?_ k2 ?_))
  · simpa using k1
  · simp [World.setRow]
def putAt {α : Type} (xs : List α) (o : Nat) (vs : List α) : List α := xs.take o ++ (vs ++ xs.drop (o + vs.length))
theorem putAt_length {α : Type} (xs : List α) (o : Nat) (vs : List α) (h : o + vs.length ≤ xs.length) : (putAt xs o vs).length = xs.length := by
  unfold putAt; simp; omega
theorem setCells_block14 {b : Nat} {e : TypeId} {fz : Nat × Nat} : ∀ (vs : List Value) (o : Nat) (w : World) (cur : Array Value), w.heap[b]? = some (.cells cur e fz) → ∃ cur', (w.setCells b o vs).heap[b]? = some (.cells cur' e fz) ∧ cur'.size = cur.size
  | [], _, _, cur, h => ⟨cur, h, rfl⟩
  | v :: vs, o, w, cur, h => by
    obtain ⟨c1, h1, h2⟩ : ∃ c1, (w.setCell ⟨b, o, none⟩ v).heap[b]? = some (.cells c1 e fz) ∧ c1.size = cur.size := by
      unfold World.setCell
      simp only [h]
      have hlt := (Array.getElem?_eq_some_iff.1 h).1
      refine ⟨cur.setIfInBounds o v, ?_, by simp⟩
      simp only [Array.getElem?_modify, h, if_true, Option.map_some]
      rfl
    obtain ⟨c2, h3, h4⟩ := setCells_block14 vs (o + 1) _ c1 h1
    exact ⟨c2, h3, h4.trans h2⟩
theorem grown_setCells14 (b : Nat) : ∀ (vs : List Value) (o : Nat) (w : World), w.grownBy (w.setCells b o vs) (some b)
  | [], _, w => ⟨rfl, rfl, rfl, Nat.le_refl _, fun _ _ _ => rfl⟩
  | v :: vs, o, w => (grown_set14 w b o v).trans (grown_setCells14 b vs (o + 1) _)
theorem there_row14 {w : World} {base : Nat} {e : TypeId} {size n cap g : Nat} {xs : List Value} (h : w.ownsRow base e size (.slice (some ⟨g, 0, none⟩) n cap) n xs) {o k : Nat} (ho : o + k ≤ n * size) : w.there g o k := by
  rcases h.2 with ⟨e1, _⟩ | ⟨g2, cap', cur, e1, hb, hg, hn, hc, hsz, htk⟩
  · simp at e1
  · simp only [Value.slice.injEq, Option.some.injEq] at e1
    obtain ⟨e1, -, rfl⟩ := e1
    cases e1
    intro j hj
    have hlt : o + j < cur.size := by
      rw [hsz]; have := Nat.mul_le_mul_right size hn; omega
    refine ⟨?_, frozen_of_row w g _ cur e hg⟩
    rw [cell_of_row w g (o + j) cur e _ hg, Array.getElem?_eq_getElem hlt]; rfl
theorem row_put14 {w : World} {base : Nat} {e : TypeId} {size n cap g : Nat} {xs : List Value} (h : w.ownsRow base e size (.slice (some ⟨g, 0, none⟩) n cap) n xs) {o : Nat} {vs : List Value} (ho : o + vs.length ≤ n * size) :
    (w.setCells g o vs).ownsRow base e size (.slice (some ⟨g, 0, none⟩) n cap) n (putAt xs o vs) := by
  have hth := there_row14 h ho
  have hlen := h.1
  refine ⟨(putAt_length xs o vs (by omega)).trans hlen, ?_⟩
  rcases h.2 with ⟨e1, _⟩ | ⟨g2, cap', cur, e1, hb, hg, hn, hc, hsz, htk⟩
  · simp at e1
  · simp only [Value.slice.injEq, Option.some.injEq] at e1
    obtain ⟨e1, -, rfl⟩ := e1
    cases e1
    obtain ⟨cur', h1, h2⟩ := setCells_block14 vs o w cur hg
    refine .inr ⟨g, cap, cur', rfl, hb, h1, hn, hc, h2.trans hsz, ?_⟩
    have hcur : ∀ i, i < n * size → cur[i]? = xs[i]? := fun i hi => by
      rw [← htk, List.getElem?_take_of_lt hi, Array.getElem?_toList]
    have hnew : ∀ i, cur'[i]? = (w.setCells g o vs).cell? ⟨g, i, none⟩ := fun i => (cell_of_row _ g i cur' e _ h1).symm
    apply List.ext_getElem?
    intro i
    by_cases hi : i < n * size
    · rw [List.getElem?_take_of_lt hi, Array.getElem?_toList, hnew]
      unfold putAt
      by_cases h3 : i < o
      · rw [List.getElem?_append_left (by rw [List.length_take]; omega), List.getElem?_take_of_lt h3, ← hcur i hi, ← cell_of_row w g i cur e _ hg]
        exact World.cell?_setCells_out g vs o w ⟨g, i, none⟩ (fun _ _ => .inl h3)
      · rw [List.getElem?_append_right (by rw [List.length_take]; omega), List.length_take, Nat.min_eq_left (by omega)]
        by_cases h4 : i < o + vs.length
        · rw [List.getElem?_append_left (by omega)]
          have := World.rangeAt_setCells_same w g o vs hth (i - o) _ (List.getElem?_eq_getElem (by omega))
          rw [show o + (i - o) = i by omega] at this
          rw [this, List.getElem?_eq_getElem (by omega)]
        · rw [List.getElem?_append_right (by omega), List.getElem?_drop, show o + vs.length + (i - o - vs.length) = i by omega, ← hcur i hi, ← cell_of_row w g i cur e _ hg]
          exact World.cell?_setCells_out g vs o w ⟨g, i, none⟩ (fun _ _ => .inr (by show o + vs.length ≤ i; omega))
    · rw [List.getElem?_eq_none (by rw [List.length_take]; omega), List.getElem?_eq_none (by rw [putAt_length xs o vs (by omega)]; omega)]
theorem PCs_put : ∀ (ps : List S14.P) (ys : List Lay) (k : Nat) (p : S14.P) (y : Lay), ys.length = ps.length → k < ps.length → PCs (ps.set k p) (ys.set k y) = putAt (PCs ps ys) (k * 16) (PVals p y)
  | [], _, _, _, _, _, hk => by simp at hk
  | _ :: _, [], _, _, _, h, _ => by simp at h
  | q :: ps, z :: ys, 0, p, y, _, _ => by
    show PVals p y ++ PCs ps ys = putAt (PVals q z ++ PCs ps ys) (0 * 16) (PVals p y)
    unfold putAt
    rw [Nat.zero_mul, List.take_zero, List.nil_append, Nat.zero_add, PVals_length, List.drop_append, PVals_length, Nat.sub_self, List.drop_zero, List.drop_of_length_le (by rw [PVals_length]; exact Nat.le_refl _), List.nil_append]
  | q :: ps, z :: ys, k + 1, p, y, h, hk => by
    show PVals q z ++ PCs (ps.set k p) (ys.set k y) = putAt (PVals q z ++ PCs ps ys) ((k + 1) * 16) (PVals p y)
    rw [PCs_put ps ys k p y (by simpa using h) (by simpa using hk)]
    unfold putAt
    have e1 : (PVals q z).take ((k + 1) * 16) = PVals q z := List.take_of_length_le (by rw [PVals_length]; omega)
    have e2 : (PVals q z).drop ((k + 1) * 16 + 16) = [] := List.drop_of_length_le (by rw [PVals_length]; omega)
    rw [PVals_length p y, List.take_append, List.drop_append, e1, e2, PVals_length q z, List.nil_append, List.append_assoc, show (k + 1) * 16 - 16 = k * 16 by omega, show (k + 1) * 16 + 16 - 16 = k * 16 + 16 by omega]
end Go.Proofs.YtieeogndnhighaaGreat
set_option linter.unusedSimpArgs false
set_option linter.unusedVariables false
set_option linter.unusedSectionVars false
namespace Go.Proofs.YtieeogndnhighaaGreat
open Go.RowKit
/-- Outputs, one behind the other. -/
def S14.outs (O : Nat → List Int → Int) : Nat → List Int
  | 0 => []
  | k + 1 => S14.outs O k ++ [O k (S14.outs O k)]
theorem S14.outs_length (O : Nat → List Int → Int) : ∀ k, (S14.outs O k).length = k
  | 0 => rfl
  | k + 1 => by rw [S14.outs, List.length_append, S14.outs_length O k]; rfl
/-- Which function answers. -/
def OutF (c : S14.C) : FuncId :=
  if c.kind = 0 then 174 else if c.kind = 1 then 187 else if c.kind = 2 then 216 else if c.kind = 3 then 232 else if c.kind = 4 then 259 else if c.kind = 5 then 267 else 287
/-- What a component's output is, with a proof of it: in all worlds that keep what lies below B. -/
def OutHolds (N : S14.N) (L : NLay) (w : World) (O : Nat → List Int → Int) : Prop :=
  ∀ (k : Nat) (c : S14.C), N.comps[k]? = some c → ∀ (bef : List Int) (a : Option Addr) (W : World), Below w.heap.size w W → Rd W a (Ints bef) → bef.length = k → (∀ x ∈ bef, -3071 ≤ x ∧ x ≤ 3071) →
    (Calls Tryz.prog (OutF c) #[CV c, VV N L k (.slice a k k)] W fun e w' => e = .returned (.int .i64 (O k bef)) ∧ Below W.heap.size W w') ∧ -3071 ≤ O k bef ∧ O k bef ≤ 3071
set_option maxRecDepth 100000 in
theorem aheadOut_constant (v : Value) (w : World) : (nilAhead 410 115 v "compactor/network.output").run Tryz.prog w = .ok (some false) w := by kernel_rfl
set_option maxRecDepth 100000 in
theorem methOut_constant (v : Value) (w : World) : (method 410 115 v "compactor/network.output").run Tryz.prog w = .ok (174, v) w := by kernel_rfl
set_option maxRecDepth 100000 in
theorem aheadOut_direct (v : Value) (w : World) : (nilAhead 410 116 v "compactor/network.output").run Tryz.prog w = .ok (some false) w := by kernel_rfl
set_option maxRecDepth 100000 in
theorem methOut_direct (v : Value) (w : World) : (method 410 116 v "compactor/network.output").run Tryz.prog w = .ok (187, v) w := by kernel_rfl
set_option maxRecDepth 100000 in
theorem aheadOut_history (v : Value) (w : World) : (nilAhead 410 117 v "compactor/network.output").run Tryz.prog w = .ok (some false) w := by kernel_rfl
set_option maxRecDepth 100000 in
theorem methOut_history (v : Value) (w : World) : (method 410 117 v "compactor/network.output").run Tryz.prog w = .ok (216, v) w := by kernel_rfl
set_option maxRecDepth 100000 in
theorem aheadOut_matched (v : Value) (w : World) : (nilAhead 410 118 v "compactor/network.output").run Tryz.prog w = .ok (some false) w := by kernel_rfl
set_option maxRecDepth 100000 in
theorem methOut_matched (v : Value) (w : World) : (method 410 118 v "compactor/network.output").run Tryz.prog w = .ok (232, v) w := by kernel_rfl
set_option maxRecDepth 100000 in
theorem aheadOut_average (v : Value) (w : World) : (nilAhead 410 119 v "compactor/network.output").run Tryz.prog w = .ok (some false) w := by kernel_rfl
set_option maxRecDepth 100000 in
theorem methOut_average (v : Value) (w : World) : (method 410 119 v "compactor/network.output").run Tryz.prog w = .ok (259, v) w := by kernel_rfl
set_option maxRecDepth 100000 in
theorem aheadOut_mixed (v : Value) (w : World) : (nilAhead 410 120 v "compactor/network.output").run Tryz.prog w = .ok (some false) w := by kernel_rfl
set_option maxRecDepth 100000 in
theorem methOut_mixed (v : Value) (w : World) : (method 410 120 v "compactor/network.output").run Tryz.prog w = .ok (267, v) w := by kernel_rfl
set_option maxRecDepth 100000 in
theorem aheadOut_refined (v : Value) (w : World) : (nilAhead 410 121 v "compactor/network.output").run Tryz.prog w = .ok (some false) w := by kernel_rfl
set_option maxRecDepth 100000 in
theorem methOut_refined (v : Value) (w : World) : (method 410 121 v "compactor/network.output").run Tryz.prog w = .ok (287, v) w := by kernel_rfl
theorem mk0_14 (n : Nat) (hn : n ≤ 200) (w : World) : (Instr.makeSlice 39 (.int .i64 0) (.int .i64 (n : Int))).run Tryz.prog w = .ok (.slice (some ⟨w.heap.size, 0, none⟩) 0 n) (w.alloc (.cells (List.replicate n (.int .i64 0)).toArray 3)) := by
  obtain ⟨i, z', hi, hz, hsz, hby, hzs, hzc⟩ := elems_ints.open
  have hr := run_make (P := Tryz.prog) w 39 3 i z' elems_ints.1 hi hz .i64 .i64 0 n (by omega) (by omega) (by rw [hby]; omega) (by omega)
  simp only [Int.toNat_natCast] at hr
  have hc : z'.cells = #[.int .i64 0] := by
    apply Array.ext'
    rw [hzc]
  have hm : madeCells z'.cells (n * i.size) = (List.replicate n (Value.int .i64 0)).toArray := by
    rw [hsz, Nat.mul_one, hc]
    apply Array.ext'
    rw [toList_madeCells_one]
  rw [hm] at hr
  exact hr
set_option maxRecDepth 100000 in
set_option maxHeartbeats 2000000 in
theorem outputs14_any (N : S14.N) (L : NLay) (O : Nat → List Int → Int) (w : World) (hN : NIs N L w) (hl : N.comps.length ≤ 16) (hk6 : ∀ c ∈ N.comps, 0 ≤ c.kind ∧ c.kind ≤ 6) (HK : OutHolds N L w O) :
    Calls Tryz.prog 53 #[NV N L] w fun e w' => ∃ a cap, e = .returned (.slice a N.comps.length cap) ∧ Rd w' a (Ints (S14.outs O N.comps.length)) ∧ (∀ g o, a = some ⟨g, o, none⟩ → w.heap.size ≤ g) ∧ N.comps.length ≤ cap ∧ Below w.heap.size w w' := by
  have HN := Lib.hid hN
  have HO := Lib.hid fun (x : S14.C) W => (show Calls Tryz.prog 43 #[.agg #[.int .i64 x.kind, .int .i64 x.bits, .int .i64 x.limit, .int .i64 x.rate, .int .i64 x.first, .int .i64 x.second]] W _ from of14_any x W)
  have HH := Lib.hid HK
  have Hk6 := Lib.hid hk6
  unfold NV NVals
  have Hnc := Lib.hid (rfl : N.comps.length = N.comps.length)
  obtain ⟨nc, hnc⟩ : ∃ n, N.comps.length = n := ⟨_, rfl⟩
  obtain ⟨np, hnp⟩ : ∃ n, N.parts.length = n := ⟨_, rfl⟩
  obtain ⟨nx, hnx⟩ : ∃ n, N.ctxs.length = n := ⟨_, rfl⟩
  obtain ⟨pt, hpt⟩ : ∃ n, N.part = n := ⟨_, rfl⟩
  rw [hnc] at hl
  rw [hnc, hnp, hnx, hpt]
  unfold OutHolds VV at HH
  rw [hnc, hnp, hnx, hpt] at HH
  have Hnc2 := Lib.hid hnc
  clear hnc hnp hnx hpt hN HK hk6 Hnc
  obtain ⟨W0, hW0⟩ : ∃ W0, w.alloc (.cells #[.slice L.a1 nc L.c1, .slice L.a2 np L.c2, .slice L.a3 nx L.c3, .int .i64 pt] 26) = W0 := ⟨_, rfl⟩
  have k0 : Blk W0 w.heap.size [.slice L.a1 nc L.c1, .slice L.a2 np L.c2, .slice L.a3 nx L.c3, .int .i64 pt] 26 := by rw [← hW0]; exact Blk.new w _ _
  have z0 : W0.heap.size = w.heap.size + 1 := by rw [← hW0]; simp
  have B0 : Below w.heap.size w W0 := by rw [← hW0]; exact (Below.refl _ _).alloc (Nat.le_refl _) _
  have hmk := mk0_14 nc (by omega) W0
  obtain ⟨W1, hW1⟩ : ∃ W1, W0.alloc (.cells (List.replicate nc (.int .i64 0)).toArray 3) = W1 := ⟨_, rfl⟩
  obtain ⟨G, hG⟩ : ∃ G, w.heap.size + 1 = G := ⟨_, rfl⟩
  have hown : W1.ownsRow G 3 1 (.slice (some ⟨G, 0, none⟩) 0 nc) 0 (Ints (S14.outs O 0)) := by
    rw [← hW1, ← hG, ← z0]; exact World.ownsRow_made W0 _ nc (Nat.le_refl _) (by unfold maxLen; omega) (by simp)
  have hb1 : Below W0.heap.size W0 W1 := by rw [← hW1]; exact (Below.refl _ _).alloc (Nat.le_refl _) _
  have k1 := k0.step hb1
  have B1 := below_trans B0 hb1
  have hz1 : G ≤ W1.heap.size := by rw [← hG, ← z0]; exact hb1.size
  rw [hW1, z0, hG] at hmk
  clear hb1 hW1 B0
  have c00 := k0.cell 0
  have c10 := k1.cell 0
  simp only [List.getElem?_cons_zero] at c00 c10
  go_enter Tryz.func53, Tryz.ntmps53
  go_wp2_with (rw [hW0])
  clear k0 c00 hW0 z0 hmk c10
  go_loopw [3, 13] (fun v i wr => ∃ (k : Nat) (a : Option Addr) (c : Nat), k ≤ nc ∧ i = .int .i64 (k : Int) ∧ v = .slice a k c ∧ Hid (wr.ownsRow G 3 1 (.slice a k c) k (Ints (S14.outs O k))) ∧ Hid (∀ x ∈ S14.outs O k, -3071 ≤ x ∧ x ≤ 3071) ∧
    Blk wr w.heap.size [.slice L.a1 nc L.c1, .slice L.a2 np L.c2, .slice L.a3 nx L.c3, .int .i64 pt] 26 ∧ Below w.heap.size w wr ∧ G ≤ wr.heap.size) (fun _ i _ => nc - (intOf i).toNat)
  case atStart => exact ⟨0, _, nc, by omega, rfl, rfl, Lib.hid hown, Lib.hid (fun x hx => by cases hx), k1, B1, hz1⟩
  case round =>
    clear hown k1 B1 hz1
    obtain ⟨k, a, c, hk, rfl, rfl, hown, hin, k0, hB, hz⟩ := hrel
    by_cases hlt : k < nc
    · have hkz : (k : Int) < (nc : Int) := by omega
      obtain ⟨x, hx⟩ : ∃ x, N.comps[k]? = some x := ⟨_, List.getElem?_eq_getElem (by have := Hnc2.out; omega)⟩
      obtain ⟨g, o, hga, x0, x1, x2, x3, x4, x5⟩ := (HN.out.step hB).comp_at hx
      have Hx := Lib.hid hx
      have hkd := Hk6.out x (List.mem_of_getElem? hx)
      obtain ⟨hkc, hcm⟩ : k ≤ c ∧ c ≤ maxLen := by
        obtain ⟨a0, c0, e, h1, h2⟩ := owns_slice hown.out
        simp only [Value.slice.injEq] at e
        omega
      have hkcz : (k : Int) ≤ (c : Int) := by omega
      rw [hga] at k0 HH ⊢
      obtain ⟨W5, hW5⟩ : ∃ W5, wr.alloc (.cells #[.int .i64 x.kind, .int .i64 x.bits, .int .i64 x.limit, .int .i64 x.rate, .int .i64 x.first, .int .i64 x.second] 54) = W5 := ⟨_, rfl⟩
      obtain ⟨Q, hQ⟩ : ∃ Q, wr.heap.size = Q := ⟨_, rfl⟩
      have kQ : Blk W5 Q [.int .i64 x.kind, .int .i64 x.bits, .int .i64 x.limit, .int .i64 x.rate, .int .i64 x.first, .int .i64 x.second] 54 := by rw [← hW5, ← hQ]; exact Blk.new wr _ _
      have hb5 : Below wr.heap.size wr W5 := by rw [← hW5]; exact (Below.refl _ _).alloc (Nat.le_refl _) _
      have k05 := k0.step hb5
      have B5 := below_trans hB hb5
      have hz5 : G ≤ W5.heap.size := Nat.le_trans hz hb5.size
      have hown5 := owns_step (B := 0) hown.out hb5
      have Hown5 := Lib.hid hown5
      have hCS : Cells W5 [(⟨Q, 0, none⟩, .int .i64 x.kind), (⟨Q, 1, none⟩, .int .i64 x.bits), (⟨Q, 2, none⟩, .int .i64 x.limit), (⟨Q, 3, none⟩, .int .i64 x.rate), (⟨Q, 4, none⟩, .int .i64 x.first), (⟨Q, 5, none⟩, .int .i64 x.second), (⟨w.heap.size, 0, none⟩, .slice (some ⟨g, o, none⟩) nc L.c1), (⟨w.heap.size, 1, none⟩, .slice L.a2 np L.c2), (⟨w.heap.size, 2, none⟩, .slice L.a3 nx L.c3), (⟨w.heap.size, 3, none⟩, .int .i64 pt)] :=
        ⟨kQ.cell 0, kQ.cell 1, kQ.cell 2, kQ.cell 3, kQ.cell 4, kQ.cell 5, k05.cell 0, k05.cell 1, k05.cell 2, k05.cell 3, trivial⟩
      have c00 := k0.cell 0
      simp only [List.getElem?_cons_zero] at c00
      clear hown5 hb5 k0
      go_wp2_with (first | (rw [hW5, hQ]) | (rw [hW5]) | fail)
      have hX := HH.out k x Hx.out (S14.outs O k) a W5 B5 (Rd.of_owns Hown5.out) (S14.outs_length O k) hin.out
      have HRG := Lib.hid hX.2
      have hX2 := fun (W : World) (hW : Below W5.heap.size W5 W) => (HH.out k x Hx.out (S14.outs O k) a W (below_trans B5 hW) (Rd.of_owns (owns_step (B := 0) Hown5.out hW)) (S14.outs_length O k) hin.out).1
      obtain ⟨R, hR⟩ : ∃ R, O k (S14.outs O k) = R := ⟨_, rfl⟩
      rw [hR] at hX2 HRG
      have HR := Lib.hid hR
      clear hX hR
      unfold CV Cells14 at hX2
      have hof0 : OfV x = OfV x := rfl
      have Hof := Lib.hid (show ∀ V, OfV x = V → OfV x = V from fun _ h => h)
      unfold OutF at hX2
      by_cases k0 : x.kind = 0
      · have hof : OfV x = .iface 115 (.agg #[.int .i64 x.kind, .int .i64 x.bits, .int .i64 x.limit, .int .i64 x.rate, .int .i64 x.first, .int .i64 x.second]) := by
          unfold OfV CV Cells14; simp only [k0]; rfl
        have hX3 : ∀ W, Below W5.heap.size W5 W → Calls Tryz.prog 174 #[.agg #[.int .i64 x.kind, .int .i64 x.bits, .int .i64 x.limit, .int .i64 x.rate, .int .i64 x.first, .int .i64 x.second], .agg #[.slice (some ⟨g, o, none⟩) nc L.c1, .slice L.a2 np L.c2, .slice L.a3 nx L.c3, .int .i64 pt, .int .i64 (k : Int), .slice a k k]] W fun e w' => e = .returned (.int .i64 R) ∧ Below W.heap.size W w' := fun W hW => by
          have := hX2 W hW
          simp only [k0] at this ⊢
          exact this
        have HX := Lib.hid hX3
        have hen := enters_of Tryz.func174 (by kernel_rfl) rfl
        have hme := methOut_constant (.agg #[.int .i64 x.kind, .int .i64 x.bits, .int .i64 x.limit, .int .i64 x.rate, .int .i64 x.first, .int .i64 x.second])
        have hah := aheadOut_constant (.agg #[.int .i64 x.kind, .int .i64 x.bits, .int .i64 x.limit, .int .i64 x.rate, .int .i64 x.first, .int .i64 x.second])
        clear k0 hX2 hX3 hof0 Hof
        go_wp2_with fail
        refine wp_region_seq 16 1 [(true, [true, true, false, true, true, true, true, true, true, true]), (false, [false, false, true]), (true, [false, false, false, false, false, false, false, false, false, false, true, true, true]), (false, [false, false, false, false, false, false, false, false, false, false, false, false, false, true]), (false, [false, false, false, false, false, false, false, false, false, false, false, false, false, false, true]), (false, [false, false, false, false, false, false, false, false, false, false, false, false, false, false, false, true])] _ _ (fun K => Below G W5 K ∧ Cells K [(⟨Q, 0, none⟩, .int .i64 x.kind), (⟨Q, 1, none⟩, .int .i64 x.bits), (⟨Q, 2, none⟩, .int .i64 x.limit), (⟨Q, 3, none⟩, .int .i64 x.rate), (⟨Q, 4, none⟩, .int .i64 x.first), (⟨Q, 5, none⟩, .int .i64 x.second), (⟨w.heap.size, 0, none⟩, .slice (some ⟨g, o, none⟩) nc L.c1), (⟨w.heap.size, 1, none⟩, .slice L.a2 np L.c2), (⟨w.heap.size, 2, none⟩, .slice L.a3 nx L.c3), (⟨w.heap.size, 3, none⟩, .int .i64 pt)]) (by kernel_rfl) (List.take_append_drop 16 _).symm (by kernel_rfl) (by kernel_rfl) (by kernel_rfl) (by kernel_rfl) (⟨(Below.refl _ _).drew, hCS⟩) (fun Y Q4 F4 hY hF => ?_)
        simp only [phased, List.flatMap_cons, List.flatMap_nil, List.take_succ_cons, List.take_zero, List.drop_succ_cons, List.drop_zero, sel_true, sel_false, sel_nil, List.map_cons, List.map_nil, List.cons_append, List.nil_append, List.append_nil]
        repeat
          apply wpSeq_read (by first | rfl | (rw [hY]; rfl))
          · intro w2 hS2
            (try simp only [Keeps, Cells] at hS2)
            (try simp only [HasC, Cells] at hS2)
            go_simp
            with_reducible rfl
          simp only [Act.put, List.setIfInBounds_toArray, List.set_cons_zero, List.set_cons_succ]
        apply wpSeq_call (by first | rfl | (rw [hY]; rfl))
        · go_simp
          with_reducible exact ⟨rfl, rfl⟩
        refine (HO.out x _).mono ?_
        rintro e w6 ⟨rfl, hb6⟩
        have hb56 : Below W5.heap.size W5 w6 := below_trans ((Below.refl _ _).drew) hb6
        have hcs6 : Cells w6 [(⟨Q, 0, none⟩, .int .i64 x.kind), (⟨Q, 1, none⟩, .int .i64 x.bits), (⟨Q, 2, none⟩, .int .i64 x.limit), (⟨Q, 3, none⟩, .int .i64 x.rate), (⟨Q, 4, none⟩, .int .i64 x.first), (⟨Q, 5, none⟩, .int .i64 x.second), (⟨w.heap.size, 0, none⟩, .slice (some ⟨g, o, none⟩) nc L.c1), (⟨w.heap.size, 1, none⟩, .slice L.a2 np L.c2), (⟨w.heap.size, 2, none⟩, .slice L.a3 nx L.c3), (⟨w.heap.size, 3, none⟩, .int .i64 pt)] := Cells.step hb56 hCS
        refine ⟨_, rfl, ⟨hb56.mono hz5, hcs6⟩, ?_⟩
        simp only [Act.put, List.setIfInBounds_toArray, List.set_cons_zero, List.set_cons_succ]
        rw [hof]
        repeat
          apply wpSeq_read (by first | rfl | (rw [hY]; rfl))
          · intro w2 hS2
            (try simp only [Keeps, Cells] at hS2)
            (try simp only [HasC, Cells] at hS2)
            go_simp
            with_reducible rfl
          simp only [Act.put, List.setIfInBounds_toArray, List.set_cons_zero, List.set_cons_succ]
        apply wpSeq_call (by first | rfl | (rw [hY]; rfl))
        · go_simp
          with_reducible exact ⟨rfl, rfl⟩
        refine (HX.out w6 hb56).mono ?_
        rintro e w7 ⟨rfl, hb7⟩
        have hcs7 : Cells w7 [(⟨Q, 0, none⟩, .int .i64 x.kind), (⟨Q, 1, none⟩, .int .i64 x.bits), (⟨Q, 2, none⟩, .int .i64 x.limit), (⟨Q, 3, none⟩, .int .i64 x.rate), (⟨Q, 4, none⟩, .int .i64 x.first), (⟨Q, 5, none⟩, .int .i64 x.second), (⟨w.heap.size, 0, none⟩, .slice (some ⟨g, o, none⟩) nc L.c1), (⟨w.heap.size, 1, none⟩, .slice L.a2 np L.c2), (⟨w.heap.size, 2, none⟩, .slice L.a3 nx L.c3), (⟨w.heap.size, 3, none⟩, .int .i64 pt)] := Cells.step hb7 hcs6
        have hb57 : Below W5.heap.size W5 w7 := below_trans hb56 hb7
        refine ⟨_, rfl, ⟨hb57.mono hz5, hcs7⟩, ?_⟩
        simp only [Act.put, List.setIfInBounds_toArray, List.set_cons_zero, List.set_cons_succ]
        have hb8 : Below w7.heap.size w7 (w7.alloc (.cells #[.int .i64 R] 3)) := (Below.refl _ _).alloc (Nat.le_refl _) _
        have hb58 := below_trans hb57 hb8
        have hcs8 := Cells.step hb8 hcs7
        have hown8 := owns_step (B := 0) Hown5.out hb58
        have hrd8 : Rd (w7.alloc (.cells #[.int .i64 R] 3)) (some ⟨w7.heap.size, 0, none⟩) (Ints [R]) := (fun _ => ⟨_, 0, rfl, (Blk.new w7 [.int .i64 R] 3).cells⟩)
        have kQ8 := kQ.step hb58
        have k08 := k05.step hb58
        have hz8 : G ≤ (w7.alloc (.cells #[.int .i64 R] 3)).heap.size := Nat.le_trans hz5 hb58.size
        have Hh8 := Lib.hid hown8
        have Hr8 := Lib.hid hrd8
        clear hown8 hrd8
        refine wpSeq_value (by first | rfl | (rw [hY]; rfl)) (by go_simp; first | with_reducible exact ⟨rfl, rfl⟩ | with_reducible rfl) ((show Below G W5 (w7.alloc (.cells #[.int .i64 R] 3)) ∧ Cells (w7.alloc (.cells #[.int .i64 R] 3)) [(⟨Q, 0, none⟩, .int .i64 x.kind), (⟨Q, 1, none⟩, .int .i64 x.bits), (⟨Q, 2, none⟩, .int .i64 x.limit), (⟨Q, 3, none⟩, .int .i64 x.rate), (⟨Q, 4, none⟩, .int .i64 x.first), (⟨Q, 5, none⟩, .int .i64 x.second), (⟨w.heap.size, 0, none⟩, .slice (some ⟨g, o, none⟩) nc L.c1), (⟨w.heap.size, 1, none⟩, .slice L.a2 np L.c2), (⟨w.heap.size, 2, none⟩, .slice L.a3 nx L.c3), (⟨w.heap.size, 3, none⟩, .int .i64 pt)] from ⟨hb58.mono hz5, hcs8⟩)) ?_
        simp only [Act.put, List.setIfInBounds_toArray, List.set_cons_zero, List.set_cons_succ]
        generalize w7.alloc (.cells #[.int .i64 R] 3) = w8 at *
        refine wpSeq_append (.tmp 18) (.tmp 32) 39 3 1 8 _ G elems_ints (.slice a k c) k (Ints (S14.outs O k)) (some ⟨w7.heap.size, 0, none⟩) 1 1 (Ints [R]) (by first | rfl | (rw [hY]; rfl)) rfl rfl rfl rfl (Ints_one [R]) (by unfold maxLen; omega) (by omega) Hh8.out Hr8.out hz8 ?_
        intro a9 c9 w9 hown9 hg9
        have hne := own_apart Hh8.out kQ8 (by decide)
        have hne0 := own_apart Hh8.out k08 (by decide)
        have kQ9 := kQ8.keptRow hg9 (Ne.symm hne)
        have k09 := k08.keptRow hg9 (Ne.symm hne0)
        have hB9 : Below G w8 w9 := Below.grown (Below.refl _ _) hg9 hz8 (fun r e => (owns_block Hh8.out e).1)
        have hB59 : Below G W5 w9 := (hb58.mono hz5).trans hB9
        have hres : w9.ownsRow G 3 1 (.slice a9 (k + 1) c9) (k + 1) (Ints (S14.outs O (k + 1))) := by
          rw [S14.outs, HR.out]
          have e : Ints (S14.outs O k ++ [R]) = Ints (S14.outs O k) ++ Ints [R] := by unfold Ints; rw [List.map_append]
          rw [e]; exact hown9
        have Hres := Lib.hid hres
        refine ⟨⟨hB59, kQ9.cell 0, kQ9.cell 1, kQ9.cell 2, kQ9.cell 3, kQ9.cell 4, kQ9.cell 5, k09.cell 0, k09.cell 1, k09.cell 2, k09.cell 3, trivial⟩, ?_⟩
        simp only [Act.put, List.setIfInBounds_toArray, List.set_cons_zero, List.set_cons_succ]
        have hzB : Below w.heap.size w w9 := B5.trans (hB59.mono (by omega))
        have hz9 := hB59.size
        clear hown9 hres hg9 hne hne0
        refine wpSeq_done (hF.out _ _ (fun K hK => ?_))
        clear hF hY
        go_wp2_with fail
        refine OnlyK.mk (hK.out _ _ ?_)
        clear hK
        go_wp2
        go_roundw
        case rel =>
          refine ⟨k + 1, a9, c9, by omega, by simp, rfl, Hres.out |> Lib.hid, Lib.hid (fun y hy => ?_), k09, hzB, by omega⟩
          rw [S14.outs] at hy
          rcases List.mem_append.1 hy with h | h
          · exact hin.out y h
          · rw [List.mem_singleton.1 h]; rw [HR.out]; exact HRG.out
        case measure => simp [intOf]; omega
      by_cases k1 : x.kind = 1
      · have hof : OfV x = .iface 116 (.agg #[.int .i64 x.kind, .int .i64 x.bits, .int .i64 x.limit, .int .i64 x.rate, .int .i64 x.first, .int .i64 x.second]) := by
          unfold OfV CV Cells14; simp only [k1]; rfl
        have hX3 : ∀ W, Below W5.heap.size W5 W → Calls Tryz.prog 187 #[.agg #[.int .i64 x.kind, .int .i64 x.bits, .int .i64 x.limit, .int .i64 x.rate, .int .i64 x.first, .int .i64 x.second], .agg #[.slice (some ⟨g, o, none⟩) nc L.c1, .slice L.a2 np L.c2, .slice L.a3 nx L.c3, .int .i64 pt, .int .i64 (k : Int), .slice a k k]] W fun e w' => e = .returned (.int .i64 R) ∧ Below W.heap.size W w' := fun W hW => by
          have := hX2 W hW
          simp only [k1] at this ⊢
          exact this
        have HX := Lib.hid hX3
        have hen := enters_of Tryz.func187 (by kernel_rfl) rfl
        have hme := methOut_direct (.agg #[.int .i64 x.kind, .int .i64 x.bits, .int .i64 x.limit, .int .i64 x.rate, .int .i64 x.first, .int .i64 x.second])
        have hah := aheadOut_direct (.agg #[.int .i64 x.kind, .int .i64 x.bits, .int .i64 x.limit, .int .i64 x.rate, .int .i64 x.first, .int .i64 x.second])
        clear k1 hX2 hX3 hof0 Hof
        go_wp2_with fail
        refine wp_region_seq 16 1 [(true, [true, true, false, true, true, true, true, true, true, true]), (false, [false, false, true]), (true, [false, false, false, false, false, false, false, false, false, false, true, true, true]), (false, [false, false, false, false, false, false, false, false, false, false, false, false, false, true]), (false, [false, false, false, false, false, false, false, false, false, false, false, false, false, false, true]), (false, [false, false, false, false, false, false, false, false, false, false, false, false, false, false, false, true])] _ _ (fun K => Below G W5 K ∧ Cells K [(⟨Q, 0, none⟩, .int .i64 x.kind), (⟨Q, 1, none⟩, .int .i64 x.bits), (⟨Q, 2, none⟩, .int .i64 x.limit), (⟨Q, 3, none⟩, .int .i64 x.rate), (⟨Q, 4, none⟩, .int .i64 x.first), (⟨Q, 5, none⟩, .int .i64 x.second), (⟨w.heap.size, 0, none⟩, .slice (some ⟨g, o, none⟩) nc L.c1), (⟨w.heap.size, 1, none⟩, .slice L.a2 np L.c2), (⟨w.heap.size, 2, none⟩, .slice L.a3 nx L.c3), (⟨w.heap.size, 3, none⟩, .int .i64 pt)]) (by kernel_rfl) (List.take_append_drop 16 _).symm (by kernel_rfl) (by kernel_rfl) (by kernel_rfl) (by kernel_rfl) (⟨(Below.refl _ _).drew, hCS⟩) (fun Y Q4 F4 hY hF => ?_)
        simp only [phased, List.flatMap_cons, List.flatMap_nil, List.take_succ_cons, List.take_zero, List.drop_succ_cons, List.drop_zero, sel_true, sel_false, sel_nil, List.map_cons, List.map_nil, List.cons_append, List.nil_append, List.append_nil]
        repeat
          apply wpSeq_read (by first | rfl | (rw [hY]; rfl))
          · intro w2 hS2
            (try simp only [Keeps, Cells] at hS2)
            (try simp only [HasC, Cells] at hS2)
            go_simp
            with_reducible rfl
          simp only [Act.put, List.setIfInBounds_toArray, List.set_cons_zero, List.set_cons_succ]
        apply wpSeq_call (by first | rfl | (rw [hY]; rfl))
        · go_simp
          with_reducible exact ⟨rfl, rfl⟩
        refine (HO.out x _).mono ?_
        rintro e w6 ⟨rfl, hb6⟩
        have hb56 : Below W5.heap.size W5 w6 := below_trans ((Below.refl _ _).drew) hb6
        have hcs6 : Cells w6 [(⟨Q, 0, none⟩, .int .i64 x.kind), (⟨Q, 1, none⟩, .int .i64 x.bits), (⟨Q, 2, none⟩, .int .i64 x.limit), (⟨Q, 3, none⟩, .int .i64 x.rate), (⟨Q, 4, none⟩, .int .i64 x.first), (⟨Q, 5, none⟩, .int .i64 x.second), (⟨w.heap.size, 0, none⟩, .slice (some ⟨g, o, none⟩) nc L.c1), (⟨w.heap.size, 1, none⟩, .slice L.a2 np L.c2), (⟨w.heap.size, 2, none⟩, .slice L.a3 nx L.c3), (⟨w.heap.size, 3, none⟩, .int .i64 pt)] := Cells.step hb56 hCS
        refine ⟨_, rfl, ⟨hb56.mono hz5, hcs6⟩, ?_⟩
        simp only [Act.put, List.setIfInBounds_toArray, List.set_cons_zero, List.set_cons_succ]
        rw [hof]
        repeat
          apply wpSeq_read (by first | rfl | (rw [hY]; rfl))
          · intro w2 hS2
            (try simp only [Keeps, Cells] at hS2)
            (try simp only [HasC, Cells] at hS2)
            go_simp
            with_reducible rfl
          simp only [Act.put, List.setIfInBounds_toArray, List.set_cons_zero, List.set_cons_succ]
        apply wpSeq_call (by first | rfl | (rw [hY]; rfl))
        · go_simp
          with_reducible exact ⟨rfl, rfl⟩
        refine (HX.out w6 hb56).mono ?_
        rintro e w7 ⟨rfl, hb7⟩
        have hcs7 : Cells w7 [(⟨Q, 0, none⟩, .int .i64 x.kind), (⟨Q, 1, none⟩, .int .i64 x.bits), (⟨Q, 2, none⟩, .int .i64 x.limit), (⟨Q, 3, none⟩, .int .i64 x.rate), (⟨Q, 4, none⟩, .int .i64 x.first), (⟨Q, 5, none⟩, .int .i64 x.second), (⟨w.heap.size, 0, none⟩, .slice (some ⟨g, o, none⟩) nc L.c1), (⟨w.heap.size, 1, none⟩, .slice L.a2 np L.c2), (⟨w.heap.size, 2, none⟩, .slice L.a3 nx L.c3), (⟨w.heap.size, 3, none⟩, .int .i64 pt)] := Cells.step hb7 hcs6
        have hb57 : Below W5.heap.size W5 w7 := below_trans hb56 hb7
        refine ⟨_, rfl, ⟨hb57.mono hz5, hcs7⟩, ?_⟩
        simp only [Act.put, List.setIfInBounds_toArray, List.set_cons_zero, List.set_cons_succ]
        have hb8 : Below w7.heap.size w7 (w7.alloc (.cells #[.int .i64 R] 3)) := (Below.refl _ _).alloc (Nat.le_refl _) _
        have hb58 := below_trans hb57 hb8
        have hcs8 := Cells.step hb8 hcs7
        have hown8 := owns_step (B := 0) Hown5.out hb58
        have hrd8 : Rd (w7.alloc (.cells #[.int .i64 R] 3)) (some ⟨w7.heap.size, 0, none⟩) (Ints [R]) := (fun _ => ⟨_, 0, rfl, (Blk.new w7 [.int .i64 R] 3).cells⟩)
        have kQ8 := kQ.step hb58
        have k08 := k05.step hb58
        have hz8 : G ≤ (w7.alloc (.cells #[.int .i64 R] 3)).heap.size := Nat.le_trans hz5 hb58.size
        have Hh8 := Lib.hid hown8
        have Hr8 := Lib.hid hrd8
        clear hown8 hrd8
        refine wpSeq_value (by first | rfl | (rw [hY]; rfl)) (by go_simp; first | with_reducible exact ⟨rfl, rfl⟩ | with_reducible rfl) ((show Below G W5 (w7.alloc (.cells #[.int .i64 R] 3)) ∧ Cells (w7.alloc (.cells #[.int .i64 R] 3)) [(⟨Q, 0, none⟩, .int .i64 x.kind), (⟨Q, 1, none⟩, .int .i64 x.bits), (⟨Q, 2, none⟩, .int .i64 x.limit), (⟨Q, 3, none⟩, .int .i64 x.rate), (⟨Q, 4, none⟩, .int .i64 x.first), (⟨Q, 5, none⟩, .int .i64 x.second), (⟨w.heap.size, 0, none⟩, .slice (some ⟨g, o, none⟩) nc L.c1), (⟨w.heap.size, 1, none⟩, .slice L.a2 np L.c2), (⟨w.heap.size, 2, none⟩, .slice L.a3 nx L.c3), (⟨w.heap.size, 3, none⟩, .int .i64 pt)] from ⟨hb58.mono hz5, hcs8⟩)) ?_
        simp only [Act.put, List.setIfInBounds_toArray, List.set_cons_zero, List.set_cons_succ]
        generalize w7.alloc (.cells #[.int .i64 R] 3) = w8 at *
        refine wpSeq_append (.tmp 18) (.tmp 32) 39 3 1 8 _ G elems_ints (.slice a k c) k (Ints (S14.outs O k)) (some ⟨w7.heap.size, 0, none⟩) 1 1 (Ints [R]) (by first | rfl | (rw [hY]; rfl)) rfl rfl rfl rfl (Ints_one [R]) (by unfold maxLen; omega) (by omega) Hh8.out Hr8.out hz8 ?_
        intro a9 c9 w9 hown9 hg9
        have hne := own_apart Hh8.out kQ8 (by decide)
        have hne0 := own_apart Hh8.out k08 (by decide)
        have kQ9 := kQ8.keptRow hg9 (Ne.symm hne)
        have k09 := k08.keptRow hg9 (Ne.symm hne0)
        have hB9 : Below G w8 w9 := Below.grown (Below.refl _ _) hg9 hz8 (fun r e => (owns_block Hh8.out e).1)
        have hB59 : Below G W5 w9 := (hb58.mono hz5).trans hB9
        have hres : w9.ownsRow G 3 1 (.slice a9 (k + 1) c9) (k + 1) (Ints (S14.outs O (k + 1))) := by
          rw [S14.outs, HR.out]
          have e : Ints (S14.outs O k ++ [R]) = Ints (S14.outs O k) ++ Ints [R] := by unfold Ints; rw [List.map_append]
          rw [e]; exact hown9
        have Hres := Lib.hid hres
        refine ⟨⟨hB59, kQ9.cell 0, kQ9.cell 1, kQ9.cell 2, kQ9.cell 3, kQ9.cell 4, kQ9.cell 5, k09.cell 0, k09.cell 1, k09.cell 2, k09.cell 3, trivial⟩, ?_⟩
        simp only [Act.put, List.setIfInBounds_toArray, List.set_cons_zero, List.set_cons_succ]
        have hzB : Below w.heap.size w w9 := B5.trans (hB59.mono (by omega))
        have hz9 := hB59.size
        clear hown9 hres hg9 hne hne0
        refine wpSeq_done (hF.out _ _ (fun K hK => ?_))
        clear hF hY
        go_wp2_with fail
        refine OnlyK.mk (hK.out _ _ ?_)
        clear hK
        go_wp2
        go_roundw
        case rel =>
          refine ⟨k + 1, a9, c9, by omega, by simp, rfl, Hres.out |> Lib.hid, Lib.hid (fun y hy => ?_), k09, hzB, by omega⟩
          rw [S14.outs] at hy
          rcases List.mem_append.1 hy with h | h
          · exact hin.out y h
          · rw [List.mem_singleton.1 h]; rw [HR.out]; exact HRG.out
        case measure => simp [intOf]; omega
      by_cases k2 : x.kind = 2
      · have hof : OfV x = .iface 117 (.agg #[.int .i64 x.kind, .int .i64 x.bits, .int .i64 x.limit, .int .i64 x.rate, .int .i64 x.first, .int .i64 x.second]) := by
          unfold OfV CV Cells14; simp only [k2]; rfl
        have hX3 : ∀ W, Below W5.heap.size W5 W → Calls Tryz.prog 216 #[.agg #[.int .i64 x.kind, .int .i64 x.bits, .int .i64 x.limit, .int .i64 x.rate, .int .i64 x.first, .int .i64 x.second], .agg #[.slice (some ⟨g, o, none⟩) nc L.c1, .slice L.a2 np L.c2, .slice L.a3 nx L.c3, .int .i64 pt, .int .i64 (k : Int), .slice a k k]] W fun e w' => e = .returned (.int .i64 R) ∧ Below W.heap.size W w' := fun W hW => by
          have := hX2 W hW
          simp only [k2] at this ⊢
          exact this
        have HX := Lib.hid hX3
        have hen := enters_of Tryz.func216 (by kernel_rfl) rfl
        have hme := methOut_history (.agg #[.int .i64 x.kind, .int .i64 x.bits, .int .i64 x.limit, .int .i64 x.rate, .int .i64 x.first, .int .i64 x.second])
        have hah := aheadOut_history (.agg #[.int .i64 x.kind, .int .i64 x.bits, .int .i64 x.limit, .int .i64 x.rate, .int .i64 x.first, .int .i64 x.second])
        clear k2 hX2 hX3 hof0 Hof
        go_wp2_with fail
        refine wp_region_seq 16 1 [(true, [true, true, false, true, true, true, true, true, true, true]), (false, [false, false, true]), (true, [false, false, false, false, false, false, false, false, false, false, true, true, true]), (false, [false, false, false, false, false, false, false, false, false, false, false, false, false, true]), (false, [false, false, false, false, false, false, false, false, false, false, false, false, false, false, true]), (false, [false, false, false, false, false, false, false, false, false, false, false, false, false, false, false, true])] _ _ (fun K => Below G W5 K ∧ Cells K [(⟨Q, 0, none⟩, .int .i64 x.kind), (⟨Q, 1, none⟩, .int .i64 x.bits), (⟨Q, 2, none⟩, .int .i64 x.limit), (⟨Q, 3, none⟩, .int .i64 x.rate), (⟨Q, 4, none⟩, .int .i64 x.first), (⟨Q, 5, none⟩, .int .i64 x.second), (⟨w.heap.size, 0, none⟩, .slice (some ⟨g, o, none⟩) nc L.c1), (⟨w.heap.size, 1, none⟩, .slice L.a2 np L.c2), (⟨w.heap.size, 2, none⟩, .slice L.a3 nx L.c3), (⟨w.heap.size, 3, none⟩, .int .i64 pt)]) (by kernel_rfl) (List.take_append_drop 16 _).symm (by kernel_rfl) (by kernel_rfl) (by kernel_rfl) (by kernel_rfl) (⟨(Below.refl _ _).drew, hCS⟩) (fun Y Q4 F4 hY hF => ?_)
        simp only [phased, List.flatMap_cons, List.flatMap_nil, List.take_succ_cons, List.take_zero, List.drop_succ_cons, List.drop_zero, sel_true, sel_false, sel_nil, List.map_cons, List.map_nil, List.cons_append, List.nil_append, List.append_nil]
        repeat
          apply wpSeq_read (by first | rfl | (rw [hY]; rfl))
          · intro w2 hS2
            (try simp only [Keeps, Cells] at hS2)
            (try simp only [HasC, Cells] at hS2)
            go_simp
            with_reducible rfl
          simp only [Act.put, List.setIfInBounds_toArray, List.set_cons_zero, List.set_cons_succ]
        apply wpSeq_call (by first | rfl | (rw [hY]; rfl))
        · go_simp
          with_reducible exact ⟨rfl, rfl⟩
        refine (HO.out x _).mono ?_
        rintro e w6 ⟨rfl, hb6⟩
        have hb56 : Below W5.heap.size W5 w6 := below_trans ((Below.refl _ _).drew) hb6
        have hcs6 : Cells w6 [(⟨Q, 0, none⟩, .int .i64 x.kind), (⟨Q, 1, none⟩, .int .i64 x.bits), (⟨Q, 2, none⟩, .int .i64 x.limit), (⟨Q, 3, none⟩, .int .i64 x.rate), (⟨Q, 4, none⟩, .int .i64 x.first), (⟨Q, 5, none⟩, .int .i64 x.second), (⟨w.heap.size, 0, none⟩, .slice (some ⟨g, o, none⟩) nc L.c1), (⟨w.heap.size, 1, none⟩, .slice L.a2 np L.c2), (⟨w.heap.size, 2, none⟩, .slice L.a3 nx L.c3), (⟨w.heap.size, 3, none⟩, .int .i64 pt)] := Cells.step hb56 hCS
        refine ⟨_, rfl, ⟨hb56.mono hz5, hcs6⟩, ?_⟩
        simp only [Act.put, List.setIfInBounds_toArray, List.set_cons_zero, List.set_cons_succ]
        rw [hof]
        repeat
          apply wpSeq_read (by first | rfl | (rw [hY]; rfl))
          · intro w2 hS2
            (try simp only [Keeps, Cells] at hS2)
            (try simp only [HasC, Cells] at hS2)
            go_simp
            with_reducible rfl
          simp only [Act.put, List.setIfInBounds_toArray, List.set_cons_zero, List.set_cons_succ]
        apply wpSeq_call (by first | rfl | (rw [hY]; rfl))
        · go_simp
          with_reducible exact ⟨rfl, rfl⟩
        refine (HX.out w6 hb56).mono ?_
        rintro e w7 ⟨rfl, hb7⟩
        have hcs7 : Cells w7 [(⟨Q, 0, none⟩, .int .i64 x.kind), (⟨Q, 1, none⟩, .int .i64 x.bits), (⟨Q, 2, none⟩, .int .i64 x.limit), (⟨Q, 3, none⟩, .int .i64 x.rate), (⟨Q, 4, none⟩, .int .i64 x.first), (⟨Q, 5, none⟩, .int .i64 x.second), (⟨w.heap.size, 0, none⟩, .slice (some ⟨g, o, none⟩) nc L.c1), (⟨w.heap.size, 1, none⟩, .slice L.a2 np L.c2), (⟨w.heap.size, 2, none⟩, .slice L.a3 nx L.c3), (⟨w.heap.size, 3, none⟩, .int .i64 pt)] := Cells.step hb7 hcs6
        have hb57 : Below W5.heap.size W5 w7 := below_trans hb56 hb7
        refine ⟨_, rfl, ⟨hb57.mono hz5, hcs7⟩, ?_⟩
        simp only [Act.put, List.setIfInBounds_toArray, List.set_cons_zero, List.set_cons_succ]
        have hb8 : Below w7.heap.size w7 (w7.alloc (.cells #[.int .i64 R] 3)) := (Below.refl _ _).alloc (Nat.le_refl _) _
        have hb58 := below_trans hb57 hb8
        have hcs8 := Cells.step hb8 hcs7
        have hown8 := owns_step (B := 0) Hown5.out hb58
        have hrd8 : Rd (w7.alloc (.cells #[.int .i64 R] 3)) (some ⟨w7.heap.size, 0, none⟩) (Ints [R]) := (fun _ => ⟨_, 0, rfl, (Blk.new w7 [.int .i64 R] 3).cells⟩)
        have kQ8 := kQ.step hb58
        have k08 := k05.step hb58
        have hz8 : G ≤ (w7.alloc (.cells #[.int .i64 R] 3)).heap.size := Nat.le_trans hz5 hb58.size
        have Hh8 := Lib.hid hown8
        have Hr8 := Lib.hid hrd8
        clear hown8 hrd8
        refine wpSeq_value (by first | rfl | (rw [hY]; rfl)) (by go_simp; first | with_reducible exact ⟨rfl, rfl⟩ | with_reducible rfl) ((show Below G W5 (w7.alloc (.cells #[.int .i64 R] 3)) ∧ Cells (w7.alloc (.cells #[.int .i64 R] 3)) [(⟨Q, 0, none⟩, .int .i64 x.kind), (⟨Q, 1, none⟩, .int .i64 x.bits), (⟨Q, 2, none⟩, .int .i64 x.limit), (⟨Q, 3, none⟩, .int .i64 x.rate), (⟨Q, 4, none⟩, .int .i64 x.first), (⟨Q, 5, none⟩, .int .i64 x.second), (⟨w.heap.size, 0, none⟩, .slice (some ⟨g, o, none⟩) nc L.c1), (⟨w.heap.size, 1, none⟩, .slice L.a2 np L.c2), (⟨w.heap.size, 2, none⟩, .slice L.a3 nx L.c3), (⟨w.heap.size, 3, none⟩, .int .i64 pt)] from ⟨hb58.mono hz5, hcs8⟩)) ?_
        simp only [Act.put, List.setIfInBounds_toArray, List.set_cons_zero, List.set_cons_succ]
        generalize w7.alloc (.cells #[.int .i64 R] 3) = w8 at *
        refine wpSeq_append (.tmp 18) (.tmp 32) 39 3 1 8 _ G elems_ints (.slice a k c) k (Ints (S14.outs O k)) (some ⟨w7.heap.size, 0, none⟩) 1 1 (Ints [R]) (by first | rfl | (rw [hY]; rfl)) rfl rfl rfl rfl (Ints_one [R]) (by unfold maxLen; omega) (by omega) Hh8.out Hr8.out hz8 ?_
        intro a9 c9 w9 hown9 hg9
        have hne := own_apart Hh8.out kQ8 (by decide)
        have hne0 := own_apart Hh8.out k08 (by decide)
        have kQ9 := kQ8.keptRow hg9 (Ne.symm hne)
        have k09 := k08.keptRow hg9 (Ne.symm hne0)
        have hB9 : Below G w8 w9 := Below.grown (Below.refl _ _) hg9 hz8 (fun r e => (owns_block Hh8.out e).1)
        have hB59 : Below G W5 w9 := (hb58.mono hz5).trans hB9
        have hres : w9.ownsRow G 3 1 (.slice a9 (k + 1) c9) (k + 1) (Ints (S14.outs O (k + 1))) := by
          rw [S14.outs, HR.out]
          have e : Ints (S14.outs O k ++ [R]) = Ints (S14.outs O k) ++ Ints [R] := by unfold Ints; rw [List.map_append]
          rw [e]; exact hown9
        have Hres := Lib.hid hres
        refine ⟨⟨hB59, kQ9.cell 0, kQ9.cell 1, kQ9.cell 2, kQ9.cell 3, kQ9.cell 4, kQ9.cell 5, k09.cell 0, k09.cell 1, k09.cell 2, k09.cell 3, trivial⟩, ?_⟩
        simp only [Act.put, List.setIfInBounds_toArray, List.set_cons_zero, List.set_cons_succ]
        have hzB : Below w.heap.size w w9 := B5.trans (hB59.mono (by omega))
        have hz9 := hB59.size
        clear hown9 hres hg9 hne hne0
        refine wpSeq_done (hF.out _ _ (fun K hK => ?_))
        clear hF hY
        go_wp2_with fail
        refine OnlyK.mk (hK.out _ _ ?_)
        clear hK
        go_wp2
        go_roundw
        case rel =>
          refine ⟨k + 1, a9, c9, by omega, by simp, rfl, Hres.out |> Lib.hid, Lib.hid (fun y hy => ?_), k09, hzB, by omega⟩
          rw [S14.outs] at hy
          rcases List.mem_append.1 hy with h | h
          · exact hin.out y h
          · rw [List.mem_singleton.1 h]; rw [HR.out]; exact HRG.out
        case measure => simp [intOf]; omega
      by_cases k3 : x.kind = 3
      · have hof : OfV x = .iface 118 (.agg #[.int .i64 x.kind, .int .i64 x.bits, .int .i64 x.limit, .int .i64 x.rate, .int .i64 x.first, .int .i64 x.second]) := by
          unfold OfV CV Cells14; simp only [k3]; rfl
        have hX3 : ∀ W, Below W5.heap.size W5 W → Calls Tryz.prog 232 #[.agg #[.int .i64 x.kind, .int .i64 x.bits, .int .i64 x.limit, .int .i64 x.rate, .int .i64 x.first, .int .i64 x.second], .agg #[.slice (some ⟨g, o, none⟩) nc L.c1, .slice L.a2 np L.c2, .slice L.a3 nx L.c3, .int .i64 pt, .int .i64 (k : Int), .slice a k k]] W fun e w' => e = .returned (.int .i64 R) ∧ Below W.heap.size W w' := fun W hW => by
          have := hX2 W hW
          simp only [k3] at this ⊢
          exact this
        have HX := Lib.hid hX3
        have hen := enters_of Tryz.func232 (by kernel_rfl) rfl
        have hme := methOut_matched (.agg #[.int .i64 x.kind, .int .i64 x.bits, .int .i64 x.limit, .int .i64 x.rate, .int .i64 x.first, .int .i64 x.second])
        have hah := aheadOut_matched (.agg #[.int .i64 x.kind, .int .i64 x.bits, .int .i64 x.limit, .int .i64 x.rate, .int .i64 x.first, .int .i64 x.second])
        clear k3 hX2 hX3 hof0 Hof
        go_wp2_with fail
        refine wp_region_seq 16 1 [(true, [true, true, false, true, true, true, true, true, true, true]), (false, [false, false, true]), (true, [false, false, false, false, false, false, false, false, false, false, true, true, true]), (false, [false, false, false, false, false, false, false, false, false, false, false, false, false, true]), (false, [false, false, false, false, false, false, false, false, false, false, false, false, false, false, true]), (false, [false, false, false, false, false, false, false, false, false, false, false, false, false, false, false, true])] _ _ (fun K => Below G W5 K ∧ Cells K [(⟨Q, 0, none⟩, .int .i64 x.kind), (⟨Q, 1, none⟩, .int .i64 x.bits), (⟨Q, 2, none⟩, .int .i64 x.limit), (⟨Q, 3, none⟩, .int .i64 x.rate), (⟨Q, 4, none⟩, .int .i64 x.first), (⟨Q, 5, none⟩, .int .i64 x.second), (⟨w.heap.size, 0, none⟩, .slice (some ⟨g, o, none⟩) nc L.c1), (⟨w.heap.size, 1, none⟩, .slice L.a2 np L.c2), (⟨w.heap.size, 2, none⟩, .slice L.a3 nx L.c3), (⟨w.heap.size, 3, none⟩, .int .i64 pt)]) (by kernel_rfl) (List.take_append_drop 16 _).symm (by kernel_rfl) (by kernel_rfl) (by kernel_rfl) (by kernel_rfl) (⟨(Below.refl _ _).drew, hCS⟩) (fun Y Q4 F4 hY hF => ?_)
        simp only [phased, List.flatMap_cons, List.flatMap_nil, List.take_succ_cons, List.take_zero, List.drop_succ_cons, List.drop_zero, sel_true, sel_false, sel_nil, List.map_cons, List.map_nil, List.cons_append, List.nil_append, List.append_nil]
        repeat
          apply wpSeq_read (by first | rfl | (rw [hY]; rfl))
          · intro w2 hS2
            (try simp only [Keeps, Cells] at hS2)
            (try simp only [HasC, Cells] at hS2)
            go_simp
            with_reducible rfl
          simp only [Act.put, List.setIfInBounds_toArray, List.set_cons_zero, List.set_cons_succ]
        apply wpSeq_call (by first | rfl | (rw [hY]; rfl))
        · go_simp
          with_reducible exact ⟨rfl, rfl⟩
        refine (HO.out x _).mono ?_
        rintro e w6 ⟨rfl, hb6⟩
        have hb56 : Below W5.heap.size W5 w6 := below_trans ((Below.refl _ _).drew) hb6
        have hcs6 : Cells w6 [(⟨Q, 0, none⟩, .int .i64 x.kind), (⟨Q, 1, none⟩, .int .i64 x.bits), (⟨Q, 2, none⟩, .int .i64 x.limit), (⟨Q, 3, none⟩, .int .i64 x.rate), (⟨Q, 4, none⟩, .int .i64 x.first), (⟨Q, 5, none⟩, .int .i64 x.second), (⟨w.heap.size, 0, none⟩, .slice (some ⟨g, o, none⟩) nc L.c1), (⟨w.heap.size, 1, none⟩, .slice L.a2 np L.c2), (⟨w.heap.size, 2, none⟩, .slice L.a3 nx L.c3), (⟨w.heap.size, 3, none⟩, .int .i64 pt)] := Cells.step hb56 hCS
        refine ⟨_, rfl, ⟨hb56.mono hz5, hcs6⟩, ?_⟩
        simp only [Act.put, List.setIfInBounds_toArray, List.set_cons_zero, List.set_cons_succ]
        rw [hof]
        repeat
          apply wpSeq_read (by first | rfl | (rw [hY]; rfl))
          · intro w2 hS2
            (try simp only [Keeps, Cells] at hS2)
            (try simp only [HasC, Cells] at hS2)
            go_simp
            with_reducible rfl
          simp only [Act.put, List.setIfInBounds_toArray, List.set_cons_zero, List.set_cons_succ]
        apply wpSeq_call (by first | rfl | (rw [hY]; rfl))
        · go_simp
          with_reducible exact ⟨rfl, rfl⟩
        refine (HX.out w6 hb56).mono ?_
        rintro e w7 ⟨rfl, hb7⟩
        have hcs7 : Cells w7 [(⟨Q, 0, none⟩, .int .i64 x.kind), (⟨Q, 1, none⟩, .int .i64 x.bits), (⟨Q, 2, none⟩, .int .i64 x.limit), (⟨Q, 3, none⟩, .int .i64 x.rate), (⟨Q, 4, none⟩, .int .i64 x.first), (⟨Q, 5, none⟩, .int .i64 x.second), (⟨w.heap.size, 0, none⟩, .slice (some ⟨g, o, none⟩) nc L.c1), (⟨w.heap.size, 1, none⟩, .slice L.a2 np L.c2), (⟨w.heap.size, 2, none⟩, .slice L.a3 nx L.c3), (⟨w.heap.size, 3, none⟩, .int .i64 pt)] := Cells.step hb7 hcs6
        have hb57 : Below W5.heap.size W5 w7 := below_trans hb56 hb7
        refine ⟨_, rfl, ⟨hb57.mono hz5, hcs7⟩, ?_⟩
        simp only [Act.put, List.setIfInBounds_toArray, List.set_cons_zero, List.set_cons_succ]
        have hb8 : Below w7.heap.size w7 (w7.alloc (.cells #[.int .i64 R] 3)) := (Below.refl _ _).alloc (Nat.le_refl _) _
        have hb58 := below_trans hb57 hb8
        have hcs8 := Cells.step hb8 hcs7
        have hown8 := owns_step (B := 0) Hown5.out hb58
        have hrd8 : Rd (w7.alloc (.cells #[.int .i64 R] 3)) (some ⟨w7.heap.size, 0, none⟩) (Ints [R]) := (fun _ => ⟨_, 0, rfl, (Blk.new w7 [.int .i64 R] 3).cells⟩)
        have kQ8 := kQ.step hb58
        have k08 := k05.step hb58
        have hz8 : G ≤ (w7.alloc (.cells #[.int .i64 R] 3)).heap.size := Nat.le_trans hz5 hb58.size
        have Hh8 := Lib.hid hown8
        have Hr8 := Lib.hid hrd8
        clear hown8 hrd8
        refine wpSeq_value (by first | rfl | (rw [hY]; rfl)) (by go_simp; first | with_reducible exact ⟨rfl, rfl⟩ | with_reducible rfl) ((show Below G W5 (w7.alloc (.cells #[.int .i64 R] 3)) ∧ Cells (w7.alloc (.cells #[.int .i64 R] 3)) [(⟨Q, 0, none⟩, .int .i64 x.kind), (⟨Q, 1, none⟩, .int .i64 x.bits), (⟨Q, 2, none⟩, .int .i64 x.limit), (⟨Q, 3, none⟩, .int .i64 x.rate), (⟨Q, 4, none⟩, .int .i64 x.first), (⟨Q, 5, none⟩, .int .i64 x.second), (⟨w.heap.size, 0, none⟩, .slice (some ⟨g, o, none⟩) nc L.c1), (⟨w.heap.size, 1, none⟩, .slice L.a2 np L.c2), (⟨w.heap.size, 2, none⟩, .slice L.a3 nx L.c3), (⟨w.heap.size, 3, none⟩, .int .i64 pt)] from ⟨hb58.mono hz5, hcs8⟩)) ?_
        simp only [Act.put, List.setIfInBounds_toArray, List.set_cons_zero, List.set_cons_succ]
        generalize w7.alloc (.cells #[.int .i64 R] 3) = w8 at *
        refine wpSeq_append (.tmp 18) (.tmp 32) 39 3 1 8 _ G elems_ints (.slice a k c) k (Ints (S14.outs O k)) (some ⟨w7.heap.size, 0, none⟩) 1 1 (Ints [R]) (by first | rfl | (rw [hY]; rfl)) rfl rfl rfl rfl (Ints_one [R]) (by unfold maxLen; omega) (by omega) Hh8.out Hr8.out hz8 ?_
        intro a9 c9 w9 hown9 hg9
        have hne := own_apart Hh8.out kQ8 (by decide)
        have hne0 := own_apart Hh8.out k08 (by decide)
        have kQ9 := kQ8.keptRow hg9 (Ne.symm hne)
        have k09 := k08.keptRow hg9 (Ne.symm hne0)
        have hB9 : Below G w8 w9 := Below.grown (Below.refl _ _) hg9 hz8 (fun r e => (owns_block Hh8.out e).1)
        have hB59 : Below G W5 w9 := (hb58.mono hz5).trans hB9
        have hres : w9.ownsRow G 3 1 (.slice a9 (k + 1) c9) (k + 1) (Ints (S14.outs O (k + 1))) := by
          rw [S14.outs, HR.out]
          have e : Ints (S14.outs O k ++ [R]) = Ints (S14.outs O k) ++ Ints [R] := by unfold Ints; rw [List.map_append]
          rw [e]; exact hown9
        have Hres := Lib.hid hres
        refine ⟨⟨hB59, kQ9.cell 0, kQ9.cell 1, kQ9.cell 2, kQ9.cell 3, kQ9.cell 4, kQ9.cell 5, k09.cell 0, k09.cell 1, k09.cell 2, k09.cell 3, trivial⟩, ?_⟩
        simp only [Act.put, List.setIfInBounds_toArray, List.set_cons_zero, List.set_cons_succ]
        have hzB : Below w.heap.size w w9 := B5.trans (hB59.mono (by omega))
        have hz9 := hB59.size
        clear hown9 hres hg9 hne hne0
        refine wpSeq_done (hF.out _ _ (fun K hK => ?_))
        clear hF hY
        go_wp2_with fail
        refine OnlyK.mk (hK.out _ _ ?_)
        clear hK
        go_wp2
        go_roundw
        case rel =>
          refine ⟨k + 1, a9, c9, by omega, by simp, rfl, Hres.out |> Lib.hid, Lib.hid (fun y hy => ?_), k09, hzB, by omega⟩
          rw [S14.outs] at hy
          rcases List.mem_append.1 hy with h | h
          · exact hin.out y h
          · rw [List.mem_singleton.1 h]; rw [HR.out]; exact HRG.out
        case measure => simp [intOf]; omega
      by_cases k4 : x.kind = 4
      · have hof : OfV x = .iface 119 (.agg #[.int .i64 x.kind, .int .i64 x.bits, .int .i64 x.limit, .int .i64 x.rate, .int .i64 x.first, .int .i64 x.second]) := by
          unfold OfV CV Cells14; simp only [k4]; rfl
        have hX3 : ∀ W, Below W5.heap.size W5 W → Calls Tryz.prog 259 #[.agg #[.int .i64 x.kind, .int .i64 x.bits, .int .i64 x.limit, .int .i64 x.rate, .int .i64 x.first, .int .i64 x.second], .agg #[.slice (some ⟨g, o, none⟩) nc L.c1, .slice L.a2 np L.c2, .slice L.a3 nx L.c3, .int .i64 pt, .int .i64 (k : Int), .slice a k k]] W fun e w' => e = .returned (.int .i64 R) ∧ Below W.heap.size W w' := fun W hW => by
          have := hX2 W hW
          simp only [k4] at this ⊢
          exact this
        have HX := Lib.hid hX3
        have hen := enters_of Tryz.func259 (by kernel_rfl) rfl
        have hme := methOut_average (.agg #[.int .i64 x.kind, .int .i64 x.bits, .int .i64 x.limit, .int .i64 x.rate, .int .i64 x.first, .int .i64 x.second])
        have hah := aheadOut_average (.agg #[.int .i64 x.kind, .int .i64 x.bits, .int .i64 x.limit, .int .i64 x.rate, .int .i64 x.first, .int .i64 x.second])
        clear k4 hX2 hX3 hof0 Hof
        go_wp2_with fail
        refine wp_region_seq 16 1 [(true, [true, true, false, true, true, true, true, true, true, true]), (false, [false, false, true]), (true, [false, false, false, false, false, false, false, false, false, false, true, true, true]), (false, [false, false, false, false, false, false, false, false, false, false, false, false, false, true]), (false, [false, false, false, false, false, false, false, false, false, false, false, false, false, false, true]), (false, [false, false, false, false, false, false, false, false, false, false, false, false, false, false, false, true])] _ _ (fun K => Below G W5 K ∧ Cells K [(⟨Q, 0, none⟩, .int .i64 x.kind), (⟨Q, 1, none⟩, .int .i64 x.bits), (⟨Q, 2, none⟩, .int .i64 x.limit), (⟨Q, 3, none⟩, .int .i64 x.rate), (⟨Q, 4, none⟩, .int .i64 x.first), (⟨Q, 5, none⟩, .int .i64 x.second), (⟨w.heap.size, 0, none⟩, .slice (some ⟨g, o, none⟩) nc L.c1), (⟨w.heap.size, 1, none⟩, .slice L.a2 np L.c2), (⟨w.heap.size, 2, none⟩, .slice L.a3 nx L.c3), (⟨w.heap.size, 3, none⟩, .int .i64 pt)]) (by kernel_rfl) (List.take_append_drop 16 _).symm (by kernel_rfl) (by kernel_rfl) (by kernel_rfl) (by kernel_rfl) (⟨(Below.refl _ _).drew, hCS⟩) (fun Y Q4 F4 hY hF => ?_)
        simp only [phased, List.flatMap_cons, List.flatMap_nil, List.take_succ_cons, List.take_zero, List.drop_succ_cons, List.drop_zero, sel_true, sel_false, sel_nil, List.map_cons, List.map_nil, List.cons_append, List.nil_append, List.append_nil]
        repeat
          apply wpSeq_read (by first | rfl | (rw [hY]; rfl))
          · intro w2 hS2
            (try simp only [Keeps, Cells] at hS2)
            (try simp only [HasC, Cells] at hS2)
            go_simp
            with_reducible rfl
          simp only [Act.put, List.setIfInBounds_toArray, List.set_cons_zero, List.set_cons_succ]
        apply wpSeq_call (by first | rfl | (rw [hY]; rfl))
        · go_simp
          with_reducible exact ⟨rfl, rfl⟩
        refine (HO.out x _).mono ?_
        rintro e w6 ⟨rfl, hb6⟩
        have hb56 : Below W5.heap.size W5 w6 := below_trans ((Below.refl _ _).drew) hb6
        have hcs6 : Cells w6 [(⟨Q, 0, none⟩, .int .i64 x.kind), (⟨Q, 1, none⟩, .int .i64 x.bits), (⟨Q, 2, none⟩, .int .i64 x.limit), (⟨Q, 3, none⟩, .int .i64 x.rate), (⟨Q, 4, none⟩, .int .i64 x.first), (⟨Q, 5, none⟩, .int .i64 x.second), (⟨w.heap.size, 0, none⟩, .slice (some ⟨g, o, none⟩) nc L.c1), (⟨w.heap.size, 1, none⟩, .slice L.a2 np L.c2), (⟨w.heap.size, 2, none⟩, .slice L.a3 nx L.c3), (⟨w.heap.size, 3, none⟩, .int .i64 pt)] := Cells.step hb56 hCS
        refine ⟨_, rfl, ⟨hb56.mono hz5, hcs6⟩, ?_⟩
        simp only [Act.put, List.setIfInBounds_toArray, List.set_cons_zero, List.set_cons_succ]
        rw [hof]
        repeat
          apply wpSeq_read (by first | rfl | (rw [hY]; rfl))
          · intro w2 hS2
            (try simp only [Keeps, Cells] at hS2)
            (try simp only [HasC, Cells] at hS2)
            go_simp
            with_reducible rfl
          simp only [Act.put, List.setIfInBounds_toArray, List.set_cons_zero, List.set_cons_succ]
        apply wpSeq_call (by first | rfl | (rw [hY]; rfl))
        · go_simp
          with_reducible exact ⟨rfl, rfl⟩
        refine (HX.out w6 hb56).mono ?_
        rintro e w7 ⟨rfl, hb7⟩
        have hcs7 : Cells w7 [(⟨Q, 0, none⟩, .int .i64 x.kind), (⟨Q, 1, none⟩, .int .i64 x.bits), (⟨Q, 2, none⟩, .int .i64 x.limit), (⟨Q, 3, none⟩, .int .i64 x.rate), (⟨Q, 4, none⟩, .int .i64 x.first), (⟨Q, 5, none⟩, .int .i64 x.second), (⟨w.heap.size, 0, none⟩, .slice (some ⟨g, o, none⟩) nc L.c1), (⟨w.heap.size, 1, none⟩, .slice L.a2 np L.c2), (⟨w.heap.size, 2, none⟩, .slice L.a3 nx L.c3), (⟨w.heap.size, 3, none⟩, .int .i64 pt)] := Cells.step hb7 hcs6
        have hb57 : Below W5.heap.size W5 w7 := below_trans hb56 hb7
        refine ⟨_, rfl, ⟨hb57.mono hz5, hcs7⟩, ?_⟩
        simp only [Act.put, List.setIfInBounds_toArray, List.set_cons_zero, List.set_cons_succ]
        have hb8 : Below w7.heap.size w7 (w7.alloc (.cells #[.int .i64 R] 3)) := (Below.refl _ _).alloc (Nat.le_refl _) _
        have hb58 := below_trans hb57 hb8
        have hcs8 := Cells.step hb8 hcs7
        have hown8 := owns_step (B := 0) Hown5.out hb58
        have hrd8 : Rd (w7.alloc (.cells #[.int .i64 R] 3)) (some ⟨w7.heap.size, 0, none⟩) (Ints [R]) := (fun _ => ⟨_, 0, rfl, (Blk.new w7 [.int .i64 R] 3).cells⟩)
        have kQ8 := kQ.step hb58
        have k08 := k05.step hb58
        have hz8 : G ≤ (w7.alloc (.cells #[.int .i64 R] 3)).heap.size := Nat.le_trans hz5 hb58.size
        have Hh8 := Lib.hid hown8
        have Hr8 := Lib.hid hrd8
        clear hown8 hrd8
        refine wpSeq_value (by first | rfl | (rw [hY]; rfl)) (by go_simp; first | with_reducible exact ⟨rfl, rfl⟩ | with_reducible rfl) ((show Below G W5 (w7.alloc (.cells #[.int .i64 R] 3)) ∧ Cells (w7.alloc (.cells #[.int .i64 R] 3)) [(⟨Q, 0, none⟩, .int .i64 x.kind), (⟨Q, 1, none⟩, .int .i64 x.bits), (⟨Q, 2, none⟩, .int .i64 x.limit), (⟨Q, 3, none⟩, .int .i64 x.rate), (⟨Q, 4, none⟩, .int .i64 x.first), (⟨Q, 5, none⟩, .int .i64 x.second), (⟨w.heap.size, 0, none⟩, .slice (some ⟨g, o, none⟩) nc L.c1), (⟨w.heap.size, 1, none⟩, .slice L.a2 np L.c2), (⟨w.heap.size, 2, none⟩, .slice L.a3 nx L.c3), (⟨w.heap.size, 3, none⟩, .int .i64 pt)] from ⟨hb58.mono hz5, hcs8⟩)) ?_
        simp only [Act.put, List.setIfInBounds_toArray, List.set_cons_zero, List.set_cons_succ]
        generalize w7.alloc (.cells #[.int .i64 R] 3) = w8 at *
        refine wpSeq_append (.tmp 18) (.tmp 32) 39 3 1 8 _ G elems_ints (.slice a k c) k (Ints (S14.outs O k)) (some ⟨w7.heap.size, 0, none⟩) 1 1 (Ints [R]) (by first | rfl | (rw [hY]; rfl)) rfl rfl rfl rfl (Ints_one [R]) (by unfold maxLen; omega) (by omega) Hh8.out Hr8.out hz8 ?_
        intro a9 c9 w9 hown9 hg9
        have hne := own_apart Hh8.out kQ8 (by decide)
        have hne0 := own_apart Hh8.out k08 (by decide)
        have kQ9 := kQ8.keptRow hg9 (Ne.symm hne)
        have k09 := k08.keptRow hg9 (Ne.symm hne0)
        have hB9 : Below G w8 w9 := Below.grown (Below.refl _ _) hg9 hz8 (fun r e => (owns_block Hh8.out e).1)
        have hB59 : Below G W5 w9 := (hb58.mono hz5).trans hB9
        have hres : w9.ownsRow G 3 1 (.slice a9 (k + 1) c9) (k + 1) (Ints (S14.outs O (k + 1))) := by
          rw [S14.outs, HR.out]
          have e : Ints (S14.outs O k ++ [R]) = Ints (S14.outs O k) ++ Ints [R] := by unfold Ints; rw [List.map_append]
          rw [e]; exact hown9
        have Hres := Lib.hid hres
        refine ⟨⟨hB59, kQ9.cell 0, kQ9.cell 1, kQ9.cell 2, kQ9.cell 3, kQ9.cell 4, kQ9.cell 5, k09.cell 0, k09.cell 1, k09.cell 2, k09.cell 3, trivial⟩, ?_⟩
        simp only [Act.put, List.setIfInBounds_toArray, List.set_cons_zero, List.set_cons_succ]
        have hzB : Below w.heap.size w w9 := B5.trans (hB59.mono (by omega))
        have hz9 := hB59.size
        clear hown9 hres hg9 hne hne0
        refine wpSeq_done (hF.out _ _ (fun K hK => ?_))
        clear hF hY
        go_wp2_with fail
        refine OnlyK.mk (hK.out _ _ ?_)
        clear hK
        go_wp2
        go_roundw
        case rel =>
          refine ⟨k + 1, a9, c9, by omega, by simp, rfl, Hres.out |> Lib.hid, Lib.hid (fun y hy => ?_), k09, hzB, by omega⟩
          rw [S14.outs] at hy
          rcases List.mem_append.1 hy with h | h
          · exact hin.out y h
          · rw [List.mem_singleton.1 h]; rw [HR.out]; exact HRG.out
        case measure => simp [intOf]; omega
      by_cases k5 : x.kind = 5
      · have hof : OfV x = .iface 120 (.agg #[.int .i64 x.kind, .int .i64 x.bits, .int .i64 x.limit, .int .i64 x.rate, .int .i64 x.first, .int .i64 x.second]) := by
          unfold OfV CV Cells14; simp only [k5]; rfl
        have hX3 : ∀ W, Below W5.heap.size W5 W → Calls Tryz.prog 267 #[.agg #[.int .i64 x.kind, .int .i64 x.bits, .int .i64 x.limit, .int .i64 x.rate, .int .i64 x.first, .int .i64 x.second], .agg #[.slice (some ⟨g, o, none⟩) nc L.c1, .slice L.a2 np L.c2, .slice L.a3 nx L.c3, .int .i64 pt, .int .i64 (k : Int), .slice a k k]] W fun e w' => e = .returned (.int .i64 R) ∧ Below W.heap.size W w' := fun W hW => by
          have := hX2 W hW
          simp only [k5] at this ⊢
          exact this
        have HX := Lib.hid hX3
        have hen := enters_of Tryz.func267 (by kernel_rfl) rfl
        have hme := methOut_mixed (.agg #[.int .i64 x.kind, .int .i64 x.bits, .int .i64 x.limit, .int .i64 x.rate, .int .i64 x.first, .int .i64 x.second])
        have hah := aheadOut_mixed (.agg #[.int .i64 x.kind, .int .i64 x.bits, .int .i64 x.limit, .int .i64 x.rate, .int .i64 x.first, .int .i64 x.second])
        clear k5 hX2 hX3 hof0 Hof
        go_wp2_with fail
        refine wp_region_seq 16 1 [(true, [true, true, false, true, true, true, true, true, true, true]), (false, [false, false, true]), (true, [false, false, false, false, false, false, false, false, false, false, true, true, true]), (false, [false, false, false, false, false, false, false, false, false, false, false, false, false, true]), (false, [false, false, false, false, false, false, false, false, false, false, false, false, false, false, true]), (false, [false, false, false, false, false, false, false, false, false, false, false, false, false, false, false, true])] _ _ (fun K => Below G W5 K ∧ Cells K [(⟨Q, 0, none⟩, .int .i64 x.kind), (⟨Q, 1, none⟩, .int .i64 x.bits), (⟨Q, 2, none⟩, .int .i64 x.limit), (⟨Q, 3, none⟩, .int .i64 x.rate), (⟨Q, 4, none⟩, .int .i64 x.first), (⟨Q, 5, none⟩, .int .i64 x.second), (⟨w.heap.size, 0, none⟩, .slice (some ⟨g, o, none⟩) nc L.c1), (⟨w.heap.size, 1, none⟩, .slice L.a2 np L.c2), (⟨w.heap.size, 2, none⟩, .slice L.a3 nx L.c3), (⟨w.heap.size, 3, none⟩, .int .i64 pt)]) (by kernel_rfl) (List.take_append_drop 16 _).symm (by kernel_rfl) (by kernel_rfl) (by kernel_rfl) (by kernel_rfl) (⟨(Below.refl _ _).drew, hCS⟩) (fun Y Q4 F4 hY hF => ?_)
        simp only [phased, List.flatMap_cons, List.flatMap_nil, List.take_succ_cons, List.take_zero, List.drop_succ_cons, List.drop_zero, sel_true, sel_false, sel_nil, List.map_cons, List.map_nil, List.cons_append, List.nil_append, List.append_nil]
        repeat
          apply wpSeq_read (by first | rfl | (rw [hY]; rfl))
          · intro w2 hS2
            (try simp only [Keeps, Cells] at hS2)
            (try simp only [HasC, Cells] at hS2)
            go_simp
            with_reducible rfl
          simp only [Act.put, List.setIfInBounds_toArray, List.set_cons_zero, List.set_cons_succ]
        apply wpSeq_call (by first | rfl | (rw [hY]; rfl))
        · go_simp
          with_reducible exact ⟨rfl, rfl⟩
        refine (HO.out x _).mono ?_
        rintro e w6 ⟨rfl, hb6⟩
        have hb56 : Below W5.heap.size W5 w6 := below_trans ((Below.refl _ _).drew) hb6
        have hcs6 : Cells w6 [(⟨Q, 0, none⟩, .int .i64 x.kind), (⟨Q, 1, none⟩, .int .i64 x.bits), (⟨Q, 2, none⟩, .int .i64 x.limit), (⟨Q, 3, none⟩, .int .i64 x.rate), (⟨Q, 4, none⟩, .int .i64 x.first), (⟨Q, 5, none⟩, .int .i64 x.second), (⟨w.heap.size, 0, none⟩, .slice (some ⟨g, o, none⟩) nc L.c1), (⟨w.heap.size, 1, none⟩, .slice L.a2 np L.c2), (⟨w.heap.size, 2, none⟩, .slice L.a3 nx L.c3), (⟨w.heap.size, 3, none⟩, .int .i64 pt)] := Cells.step hb56 hCS
        refine ⟨_, rfl, ⟨hb56.mono hz5, hcs6⟩, ?_⟩
        simp only [Act.put, List.setIfInBounds_toArray, List.set_cons_zero, List.set_cons_succ]
        rw [hof]
        repeat
          apply wpSeq_read (by first | rfl | (rw [hY]; rfl))
          · intro w2 hS2
            (try simp only [Keeps, Cells] at hS2)
            (try simp only [HasC, Cells] at hS2)
            go_simp
            with_reducible rfl
          simp only [Act.put, List.setIfInBounds_toArray, List.set_cons_zero, List.set_cons_succ]
        apply wpSeq_call (by first | rfl | (rw [hY]; rfl))
        · go_simp
          with_reducible exact ⟨rfl, rfl⟩
        refine (HX.out w6 hb56).mono ?_
        rintro e w7 ⟨rfl, hb7⟩
        have hcs7 : Cells w7 [(⟨Q, 0, none⟩, .int .i64 x.kind), (⟨Q, 1, none⟩, .int .i64 x.bits), (⟨Q, 2, none⟩, .int .i64 x.limit), (⟨Q, 3, none⟩, .int .i64 x.rate), (⟨Q, 4, none⟩, .int .i64 x.first), (⟨Q, 5, none⟩, .int .i64 x.second), (⟨w.heap.size, 0, none⟩, .slice (some ⟨g, o, none⟩) nc L.c1), (⟨w.heap.size, 1, none⟩, .slice L.a2 np L.c2), (⟨w.heap.size, 2, none⟩, .slice L.a3 nx L.c3), (⟨w.heap.size, 3, none⟩, .int .i64 pt)] := Cells.step hb7 hcs6
        have hb57 : Below W5.heap.size W5 w7 := below_trans hb56 hb7
        refine ⟨_, rfl, ⟨hb57.mono hz5, hcs7⟩, ?_⟩
        simp only [Act.put, List.setIfInBounds_toArray, List.set_cons_zero, List.set_cons_succ]
        have hb8 : Below w7.heap.size w7 (w7.alloc (.cells #[.int .i64 R] 3)) := (Below.refl _ _).alloc (Nat.le_refl _) _
        have hb58 := below_trans hb57 hb8
        have hcs8 := Cells.step hb8 hcs7
        have hown8 := owns_step (B := 0) Hown5.out hb58
        have hrd8 : Rd (w7.alloc (.cells #[.int .i64 R] 3)) (some ⟨w7.heap.size, 0, none⟩) (Ints [R]) := (fun _ => ⟨_, 0, rfl, (Blk.new w7 [.int .i64 R] 3).cells⟩)
        have kQ8 := kQ.step hb58
        have k08 := k05.step hb58
        have hz8 : G ≤ (w7.alloc (.cells #[.int .i64 R] 3)).heap.size := Nat.le_trans hz5 hb58.size
        have Hh8 := Lib.hid hown8
        have Hr8 := Lib.hid hrd8
        clear hown8 hrd8
        refine wpSeq_value (by first | rfl | (rw [hY]; rfl)) (by go_simp; first | with_reducible exact ⟨rfl, rfl⟩ | with_reducible rfl) ((show Below G W5 (w7.alloc (.cells #[.int .i64 R] 3)) ∧ Cells (w7.alloc (.cells #[.int .i64 R] 3)) [(⟨Q, 0, none⟩, .int .i64 x.kind), (⟨Q, 1, none⟩, .int .i64 x.bits), (⟨Q, 2, none⟩, .int .i64 x.limit), (⟨Q, 3, none⟩, .int .i64 x.rate), (⟨Q, 4, none⟩, .int .i64 x.first), (⟨Q, 5, none⟩, .int .i64 x.second), (⟨w.heap.size, 0, none⟩, .slice (some ⟨g, o, none⟩) nc L.c1), (⟨w.heap.size, 1, none⟩, .slice L.a2 np L.c2), (⟨w.heap.size, 2, none⟩, .slice L.a3 nx L.c3), (⟨w.heap.size, 3, none⟩, .int .i64 pt)] from ⟨hb58.mono hz5, hcs8⟩)) ?_
        simp only [Act.put, List.setIfInBounds_toArray, List.set_cons_zero, List.set_cons_succ]
        generalize w7.alloc (.cells #[.int .i64 R] 3) = w8 at *
        refine wpSeq_append (.tmp 18) (.tmp 32) 39 3 1 8 _ G elems_ints (.slice a k c) k (Ints (S14.outs O k)) (some ⟨w7.heap.size, 0, none⟩) 1 1 (Ints [R]) (by first | rfl | (rw [hY]; rfl)) rfl rfl rfl rfl (Ints_one [R]) (by unfold maxLen; omega) (by omega) Hh8.out Hr8.out hz8 ?_
        intro a9 c9 w9 hown9 hg9
        have hne := own_apart Hh8.out kQ8 (by decide)
        have hne0 := own_apart Hh8.out k08 (by decide)
        have kQ9 := kQ8.keptRow hg9 (Ne.symm hne)
        have k09 := k08.keptRow hg9 (Ne.symm hne0)
        have hB9 : Below G w8 w9 := Below.grown (Below.refl _ _) hg9 hz8 (fun r e => (owns_block Hh8.out e).1)
        have hB59 : Below G W5 w9 := (hb58.mono hz5).trans hB9
        have hres : w9.ownsRow G 3 1 (.slice a9 (k + 1) c9) (k + 1) (Ints (S14.outs O (k + 1))) := by
          rw [S14.outs, HR.out]
          have e : Ints (S14.outs O k ++ [R]) = Ints (S14.outs O k) ++ Ints [R] := by unfold Ints; rw [List.map_append]
          rw [e]; exact hown9
        have Hres := Lib.hid hres
        refine ⟨⟨hB59, kQ9.cell 0, kQ9.cell 1, kQ9.cell 2, kQ9.cell 3, kQ9.cell 4, kQ9.cell 5, k09.cell 0, k09.cell 1, k09.cell 2, k09.cell 3, trivial⟩, ?_⟩
        simp only [Act.put, List.setIfInBounds_toArray, List.set_cons_zero, List.set_cons_succ]
        have hzB : Below w.heap.size w w9 := B5.trans (hB59.mono (by omega))
        have hz9 := hB59.size
        clear hown9 hres hg9 hne hne0
        refine wpSeq_done (hF.out _ _ (fun K hK => ?_))
        clear hF hY
        go_wp2_with fail
        refine OnlyK.mk (hK.out _ _ ?_)
        clear hK
        go_wp2
        go_roundw
        case rel =>
          refine ⟨k + 1, a9, c9, by omega, by simp, rfl, Hres.out |> Lib.hid, Lib.hid (fun y hy => ?_), k09, hzB, by omega⟩
          rw [S14.outs] at hy
          rcases List.mem_append.1 hy with h | h
          · exact hin.out y h
          · rw [List.mem_singleton.1 h]; rw [HR.out]; exact HRG.out
        case measure => simp [intOf]; omega
      by_cases k6 : x.kind = 6
      · have hof : OfV x = .iface 121 (.agg #[.int .i64 x.kind, .int .i64 x.bits, .int .i64 x.limit, .int .i64 x.rate, .int .i64 x.first, .int .i64 x.second]) := by
          unfold OfV CV Cells14; simp only [k6]; rfl
        have hX3 : ∀ W, Below W5.heap.size W5 W → Calls Tryz.prog 287 #[.agg #[.int .i64 x.kind, .int .i64 x.bits, .int .i64 x.limit, .int .i64 x.rate, .int .i64 x.first, .int .i64 x.second], .agg #[.slice (some ⟨g, o, none⟩) nc L.c1, .slice L.a2 np L.c2, .slice L.a3 nx L.c3, .int .i64 pt, .int .i64 (k : Int), .slice a k k]] W fun e w' => e = .returned (.int .i64 R) ∧ Below W.heap.size W w' := fun W hW => by
          have := hX2 W hW
          simp only [k6] at this ⊢
          exact this
        have HX := Lib.hid hX3
        have hen := enters_of Tryz.func287 (by kernel_rfl) rfl
        have hme := methOut_refined (.agg #[.int .i64 x.kind, .int .i64 x.bits, .int .i64 x.limit, .int .i64 x.rate, .int .i64 x.first, .int .i64 x.second])
        have hah := aheadOut_refined (.agg #[.int .i64 x.kind, .int .i64 x.bits, .int .i64 x.limit, .int .i64 x.rate, .int .i64 x.first, .int .i64 x.second])
        clear k6 hX2 hX3 hof0 Hof
        go_wp2_with fail
        refine wp_region_seq 16 1 [(true, [true, true, false, true, true, true, true, true, true, true]), (false, [false, false, true]), (true, [false, false, false, false, false, false, false, false, false, false, true, true, true]), (false, [false, false, false, false, false, false, false, false, false, false, false, false, false, true]), (false, [false, false, false, false, false, false, false, false, false, false, false, false, false, false, true]), (false, [false, false, false, false, false, false, false, false, false, false, false, false, false, false, false, true])] _ _ (fun K => Below G W5 K ∧ Cells K [(⟨Q, 0, none⟩, .int .i64 x.kind), (⟨Q, 1, none⟩, .int .i64 x.bits), (⟨Q, 2, none⟩, .int .i64 x.limit), (⟨Q, 3, none⟩, .int .i64 x.rate), (⟨Q, 4, none⟩, .int .i64 x.first), (⟨Q, 5, none⟩, .int .i64 x.second), (⟨w.heap.size, 0, none⟩, .slice (some ⟨g, o, none⟩) nc L.c1), (⟨w.heap.size, 1, none⟩, .slice L.a2 np L.c2), (⟨w.heap.size, 2, none⟩, .slice L.a3 nx L.c3), (⟨w.heap.size, 3, none⟩, .int .i64 pt)]) (by kernel_rfl) (List.take_append_drop 16 _).symm (by kernel_rfl) (by kernel_rfl) (by kernel_rfl) (by kernel_rfl) (⟨(Below.refl _ _).drew, hCS⟩) (fun Y Q4 F4 hY hF => ?_)
        simp only [phased, List.flatMap_cons, List.flatMap_nil, List.take_succ_cons, List.take_zero, List.drop_succ_cons, List.drop_zero, sel_true, sel_false, sel_nil, List.map_cons, List.map_nil, List.cons_append, List.nil_append, List.append_nil]
        repeat
          apply wpSeq_read (by first | rfl | (rw [hY]; rfl))
          · intro w2 hS2
            (try simp only [Keeps, Cells] at hS2)
            (try simp only [HasC, Cells] at hS2)
            go_simp
            with_reducible rfl
          simp only [Act.put, List.setIfInBounds_toArray, List.set_cons_zero, List.set_cons_succ]
        apply wpSeq_call (by first | rfl | (rw [hY]; rfl))
        · go_simp
          with_reducible exact ⟨rfl, rfl⟩
        refine (HO.out x _).mono ?_
        rintro e w6 ⟨rfl, hb6⟩
        have hb56 : Below W5.heap.size W5 w6 := below_trans ((Below.refl _ _).drew) hb6
        have hcs6 : Cells w6 [(⟨Q, 0, none⟩, .int .i64 x.kind), (⟨Q, 1, none⟩, .int .i64 x.bits), (⟨Q, 2, none⟩, .int .i64 x.limit), (⟨Q, 3, none⟩, .int .i64 x.rate), (⟨Q, 4, none⟩, .int .i64 x.first), (⟨Q, 5, none⟩, .int .i64 x.second), (⟨w.heap.size, 0, none⟩, .slice (some ⟨g, o, none⟩) nc L.c1), (⟨w.heap.size, 1, none⟩, .slice L.a2 np L.c2), (⟨w.heap.size, 2, none⟩, .slice L.a3 nx L.c3), (⟨w.heap.size, 3, none⟩, .int .i64 pt)] := Cells.step hb56 hCS
        refine ⟨_, rfl, ⟨hb56.mono hz5, hcs6⟩, ?_⟩
        simp only [Act.put, List.setIfInBounds_toArray, List.set_cons_zero, List.set_cons_succ]
        rw [hof]
        repeat
          apply wpSeq_read (by first | rfl | (rw [hY]; rfl))
          · intro w2 hS2
            (try simp only [Keeps, Cells] at hS2)
            (try simp only [HasC, Cells] at hS2)
            go_simp
            with_reducible rfl
          simp only [Act.put, List.setIfInBounds_toArray, List.set_cons_zero, List.set_cons_succ]
        apply wpSeq_call (by first | rfl | (rw [hY]; rfl))
        · go_simp
          with_reducible exact ⟨rfl, rfl⟩
        refine (HX.out w6 hb56).mono ?_
        rintro e w7 ⟨rfl, hb7⟩
        have hcs7 : Cells w7 [(⟨Q, 0, none⟩, .int .i64 x.kind), (⟨Q, 1, none⟩, .int .i64 x.bits), (⟨Q, 2, none⟩, .int .i64 x.limit), (⟨Q, 3, none⟩, .int .i64 x.rate), (⟨Q, 4, none⟩, .int .i64 x.first), (⟨Q, 5, none⟩, .int .i64 x.second), (⟨w.heap.size, 0, none⟩, .slice (some ⟨g, o, none⟩) nc L.c1), (⟨w.heap.size, 1, none⟩, .slice L.a2 np L.c2), (⟨w.heap.size, 2, none⟩, .slice L.a3 nx L.c3), (⟨w.heap.size, 3, none⟩, .int .i64 pt)] := Cells.step hb7 hcs6
        have hb57 : Below W5.heap.size W5 w7 := below_trans hb56 hb7
        refine ⟨_, rfl, ⟨hb57.mono hz5, hcs7⟩, ?_⟩
        simp only [Act.put, List.setIfInBounds_toArray, List.set_cons_zero, List.set_cons_succ]
        have hb8 : Below w7.heap.size w7 (w7.alloc (.cells #[.int .i64 R] 3)) := (Below.refl _ _).alloc (Nat.le_refl _) _
        have hb58 := below_trans hb57 hb8
        have hcs8 := Cells.step hb8 hcs7
        have hown8 := owns_step (B := 0) Hown5.out hb58
        have hrd8 : Rd (w7.alloc (.cells #[.int .i64 R] 3)) (some ⟨w7.heap.size, 0, none⟩) (Ints [R]) := (fun _ => ⟨_, 0, rfl, (Blk.new w7 [.int .i64 R] 3).cells⟩)
        have kQ8 := kQ.step hb58
        have k08 := k05.step hb58
        have hz8 : G ≤ (w7.alloc (.cells #[.int .i64 R] 3)).heap.size := Nat.le_trans hz5 hb58.size
        have Hh8 := Lib.hid hown8
        have Hr8 := Lib.hid hrd8
        clear hown8 hrd8
        refine wpSeq_value (by first | rfl | (rw [hY]; rfl)) (by go_simp; first | with_reducible exact ⟨rfl, rfl⟩ | with_reducible rfl) ((show Below G W5 (w7.alloc (.cells #[.int .i64 R] 3)) ∧ Cells (w7.alloc (.cells #[.int .i64 R] 3)) [(⟨Q, 0, none⟩, .int .i64 x.kind), (⟨Q, 1, none⟩, .int .i64 x.bits), (⟨Q, 2, none⟩, .int .i64 x.limit), (⟨Q, 3, none⟩, .int .i64 x.rate), (⟨Q, 4, none⟩, .int .i64 x.first), (⟨Q, 5, none⟩, .int .i64 x.second), (⟨w.heap.size, 0, none⟩, .slice (some ⟨g, o, none⟩) nc L.c1), (⟨w.heap.size, 1, none⟩, .slice L.a2 np L.c2), (⟨w.heap.size, 2, none⟩, .slice L.a3 nx L.c3), (⟨w.heap.size, 3, none⟩, .int .i64 pt)] from ⟨hb58.mono hz5, hcs8⟩)) ?_
        simp only [Act.put, List.setIfInBounds_toArray, List.set_cons_zero, List.set_cons_succ]
        generalize w7.alloc (.cells #[.int .i64 R] 3) = w8 at *
        refine wpSeq_append (.tmp 18) (.tmp 32) 39 3 1 8 _ G elems_ints (.slice a k c) k (Ints (S14.outs O k)) (some ⟨w7.heap.size, 0, none⟩) 1 1 (Ints [R]) (by first | rfl | (rw [hY]; rfl)) rfl rfl rfl rfl (Ints_one [R]) (by unfold maxLen; omega) (by omega) Hh8.out Hr8.out hz8 ?_
        intro a9 c9 w9 hown9 hg9
        have hne := own_apart Hh8.out kQ8 (by decide)
        have hne0 := own_apart Hh8.out k08 (by decide)
        have kQ9 := kQ8.keptRow hg9 (Ne.symm hne)
        have k09 := k08.keptRow hg9 (Ne.symm hne0)
        have hB9 : Below G w8 w9 := Below.grown (Below.refl _ _) hg9 hz8 (fun r e => (owns_block Hh8.out e).1)
        have hB59 : Below G W5 w9 := (hb58.mono hz5).trans hB9
        have hres : w9.ownsRow G 3 1 (.slice a9 (k + 1) c9) (k + 1) (Ints (S14.outs O (k + 1))) := by
          rw [S14.outs, HR.out]
          have e : Ints (S14.outs O k ++ [R]) = Ints (S14.outs O k) ++ Ints [R] := by unfold Ints; rw [List.map_append]
          rw [e]; exact hown9
        have Hres := Lib.hid hres
        refine ⟨⟨hB59, kQ9.cell 0, kQ9.cell 1, kQ9.cell 2, kQ9.cell 3, kQ9.cell 4, kQ9.cell 5, k09.cell 0, k09.cell 1, k09.cell 2, k09.cell 3, trivial⟩, ?_⟩
        simp only [Act.put, List.setIfInBounds_toArray, List.set_cons_zero, List.set_cons_succ]
        have hzB : Below w.heap.size w w9 := B5.trans (hB59.mono (by omega))
        have hz9 := hB59.size
        clear hown9 hres hg9 hne hne0
        refine wpSeq_done (hF.out _ _ (fun K hK => ?_))
        clear hF hY
        go_wp2_with fail
        refine OnlyK.mk (hK.out _ _ ?_)
        clear hK
        go_wp2
        go_roundw
        case rel =>
          refine ⟨k + 1, a9, c9, by omega, by simp, rfl, Hres.out |> Lib.hid, Lib.hid (fun y hy => ?_), k09, hzB, by omega⟩
          rw [S14.outs] at hy
          rcases List.mem_append.1 hy with h | h
          · exact hin.out y h
          · rw [List.mem_singleton.1 h]; rw [HR.out]; exact HRG.out
        case measure => simp [intOf]; omega
      omega
    · obtain rfl : k = nc := by omega
      have hres := Lib.hid (Rd.of_owns hown.out)
      have hkc : k ≤ c := by
        obtain ⟨a0, c0, e, h1, h2⟩ := owns_slice hown.out
        simp only [Value.slice.injEq] at e
        omega
      have Hfar := Lib.hid (show ∀ g o, a = some ⟨g, o, none⟩ → w.heap.size ≤ g from fun g o e => by
        have := (hown.out.lt g (by rw [e]; rfl)).1
        omega)
      go_wp2
      go_returns
      exact ⟨a, c, rfl, hres.out, Hfar.out, hkc, hB⟩
end Go.Proofs.YtieeogndnhighaaGreat
set_option linter.unusedSimpArgs false
set_option linter.unusedVariables false
set_option linter.unusedSectionVars false
namespace Go.Proofs.YtieeogndnhighaaGreat
open Go.RowKit
theorem exec_loadM {P : Program} {w : World} {o : Oper} {a : Act} (T : TypeId) (x : Operand) (ho : o.op = .load T x) (b off : Nat) (hx : a.eval x = .pointer (some ⟨b, off, none⟩)) (cs : List Value) (hc : w.rangeAt b off cs) (d : TypeDesc) (hu : P.underlying T = some d) (hd : d.isRow = true) (hi : (P.info? T).map (·.size) = some cs.length) :
    (execOp a.eval o).run P w = .ok (.value (.agg cs.toArray)) w := by
  unfold execOp
  simp only [ho, hx, Instr.loadAt, Instr.sureAddr, Sem.run_bind, Sem.run_pure, Result.andThen_ok, run_loadVar_mid w b off T cs d hc hu hd hi]
/-- Are all parts right? -/
def S14.allRight (N : S14.N) : Prop := ∀ (k : Nat) (c : S14.C) (p : S14.P), N.comps[k]? = some c → N.parts[k]? = some p → S14.right c p N.part = true
open Classical in
/-- The error of a state. -/
noncomputable def S14.checkNet (N : S14.N) : Int := if S14.check N.comps ≠ 0 then S14.check N.comps else if N.parts.length ≠ N.comps.length ∨ N.ctxs.length ≠ 16 then 6 else if S14.has N.part 1 255 = false then 2 else if S14.allRight N then 0 else 3
def RightF (c : S14.C) : FuncId :=
  if c.kind = 0 then 175 else if c.kind = 1 then 188 else if c.kind = 2 then 217 else if c.kind = 3 then 233 else if c.kind = 4 then 260 else if c.kind = 5 then 268 else 288
def RightHolds (N : S14.N) (L : NLay) (w : World) : Prop :=
  ∀ (k : Nat) (c : S14.C) (p : S14.P) (y : Lay), N.comps[k]? = some c → S14.ok c (k : Int) = true → N.parts[k]? = some p → L.ys[k]? = some y → ∀ W, Below w.heap.size w W →
    Calls Tryz.prog (RightF c) #[CV c, PV p y, .int .i64 N.part] W fun e w' => e = .returned (.bool (S14.right c p N.part)) ∧ Below W.heap.size W w'
set_option maxRecDepth 100000 in
theorem aheadRight_constant (v : Value) (w : World) : (nilAhead 410 115 v "compactor/network.right").run Tryz.prog w = .ok (some false) w := by kernel_rfl
set_option maxRecDepth 100000 in
theorem methRight_constant (v : Value) (w : World) : (method 410 115 v "compactor/network.right").run Tryz.prog w = .ok (175, v) w := by kernel_rfl
set_option maxRecDepth 100000 in
theorem aheadRight_direct (v : Value) (w : World) : (nilAhead 410 116 v "compactor/network.right").run Tryz.prog w = .ok (some false) w := by kernel_rfl
set_option maxRecDepth 100000 in
theorem methRight_direct (v : Value) (w : World) : (method 410 116 v "compactor/network.right").run Tryz.prog w = .ok (188, v) w := by kernel_rfl
set_option maxRecDepth 100000 in
theorem aheadRight_history (v : Value) (w : World) : (nilAhead 410 117 v "compactor/network.right").run Tryz.prog w = .ok (some false) w := by kernel_rfl
set_option maxRecDepth 100000 in
theorem methRight_history (v : Value) (w : World) : (method 410 117 v "compactor/network.right").run Tryz.prog w = .ok (217, v) w := by kernel_rfl
set_option maxRecDepth 100000 in
theorem aheadRight_matched (v : Value) (w : World) : (nilAhead 410 118 v "compactor/network.right").run Tryz.prog w = .ok (some false) w := by kernel_rfl
set_option maxRecDepth 100000 in
theorem methRight_matched (v : Value) (w : World) : (method 410 118 v "compactor/network.right").run Tryz.prog w = .ok (233, v) w := by kernel_rfl
set_option maxRecDepth 100000 in
theorem aheadRight_average (v : Value) (w : World) : (nilAhead 410 119 v "compactor/network.right").run Tryz.prog w = .ok (some false) w := by kernel_rfl
set_option maxRecDepth 100000 in
theorem methRight_average (v : Value) (w : World) : (method 410 119 v "compactor/network.right").run Tryz.prog w = .ok (260, v) w := by kernel_rfl
set_option maxRecDepth 100000 in
theorem aheadRight_mixed (v : Value) (w : World) : (nilAhead 410 120 v "compactor/network.right").run Tryz.prog w = .ok (some false) w := by kernel_rfl
set_option maxRecDepth 100000 in
theorem methRight_mixed (v : Value) (w : World) : (method 410 120 v "compactor/network.right").run Tryz.prog w = .ok (268, v) w := by kernel_rfl
set_option maxRecDepth 100000 in
theorem aheadRight_refined (v : Value) (w : World) : (nilAhead 410 121 v "compactor/network.right").run Tryz.prog w = .ok (some false) w := by kernel_rfl
set_option maxRecDepth 100000 in
theorem methRight_refined (v : Value) (w : World) : (method 410 121 v "compactor/network.right").run Tryz.prog w = .ok (288, v) w := by kernel_rfl
theorem S14.check_zero_N {l : List S14.C} (h : S14.check l = 0) : 1 ≤ l.length ∧ l.length ≤ 16 ∧ ∀ (k : Nat) (x : S14.C), l[k]? = some x → S14.ok x (k : Int) = true := by
  unfold S14.check at h
  split at h
  · cases h
  · split at h
    · rename_i h1 h2
      exact ⟨by omega, by omega, (S14.allOk_iff l).1 h2⟩
    · cases h
set_option maxRecDepth 100000 in
set_option maxHeartbeats 2000000 in
theorem checkNet14_any (N : S14.N) (L : NLay) (w : World) (hN : NIs N L w) (hl1 : N.comps.length ≤ 4611686018427387904) (HR : RightHolds N L w) :
    Calls Tryz.prog 18 #[NV N L] w fun e w' => e = .returned (.int .i64 (S14.checkNet N)) ∧ Below w.heap.size w w' := by
  have B0 : Below w.heap.size w (w.alloc (.cells (NVals N L).toArray 26)) := (Below.refl _ _).alloc (Nat.le_refl _) _
  have HC := Lib.hid fun (W : World) (hW : Below w.heap.size w W) => check14_any N.comps L.a1 L.c1 W hl1 (hN.rc.step hW)
  have HBw := Lib.hid fun W => between14_any N.part 1 255 W
  have HN := Lib.hid hN
  have HRH := Lib.hid HR
  have HO := Lib.hid fun (x : S14.C) W => (show Calls Tryz.prog 43 #[.agg #[.int .i64 x.kind, .int .i64 x.bits, .int .i64 x.limit, .int .i64 x.rate, .int .i64 x.first, .int .i64 x.second]] W _ from of14_any x W)
  obtain ⟨R, hR⟩ : ∃ R, S14.checkNet N = R := ⟨_, rfl⟩
  rw [hR]
  unfold S14.checkNet at hR
  have HZ := Lib.hid (fun h => S14.check_zero_N (l := N.comps) h)
  obtain ⟨E, hE⟩ : ∃ E, S14.check N.comps = E := ⟨_, rfl⟩
  rw [hE] at hR HC HZ
  obtain ⟨inr, hinr⟩ : ∃ b, S14.has N.part 1 255 = b := ⟨_, rfl⟩
  rw [hinr] at hR HBw
  unfold NV NVals at *
  obtain ⟨nc, hnc⟩ : ∃ n, N.comps.length = n := ⟨_, rfl⟩
  obtain ⟨np, hnp⟩ : ∃ n, N.parts.length = n := ⟨_, rfl⟩
  obtain ⟨nx, hnx⟩ : ∃ n, N.ctxs.length = n := ⟨_, rfl⟩
  obtain ⟨pt, hpt⟩ : ∃ n, N.part = n := ⟨_, rfl⟩
  rw [hnc, hnp, hnx] at hR
  rw [hnc] at HZ HC
  rw [hnc, hnp, hnx, hpt] at B0
  rw [hpt] at HBw
  rw [hnc, hnp, hnx, hpt]
  have Hnc := Lib.hid hnc
  have Hnp := Lib.hid hnp
  have Hpt := Lib.hid hpt
  clear hnc hnp hnx hpt hN HR hE hinr hl1
  obtain ⟨W0, hW0⟩ : ∃ W0, w.alloc (.cells #[.slice L.a1 nc L.c1, .slice L.a2 np L.c2, .slice L.a3 nx L.c3, .int .i64 pt] 26) = W0 := ⟨_, rfl⟩
  have k0 : Blk W0 w.heap.size [.slice L.a1 nc L.c1, .slice L.a2 np L.c2, .slice L.a3 nx L.c3, .int .i64 pt] 26 := by rw [← hW0]; exact Blk.new w _ _
  rw [show ([.slice L.a1 nc L.c1, .slice L.a2 np L.c2, .slice L.a3 nx L.c3, .int .i64 pt] : List Value).toArray = #[.slice L.a1 nc L.c1, .slice L.a2 np L.c2, .slice L.a3 nx L.c3, .int .i64 pt] from rfl, hW0] at B0
  have HC0 := Lib.hid (HC.out W0 B0)
  clear HC
  by_cases hE0 : E = 0
  · subst hE0
    obtain ⟨h1c, h16c, hok⟩ := HZ.out rfl
    have Hok := Lib.hid hok
    rw [if_neg (by simp)] at hR
    clear HZ hok
    by_cases hnp : np = nc
    · by_cases hnx : nx = 16
      · rw [if_neg (by omega)] at hR
        have e1 : ((np : Int) != (nc : Int)) = false := by simp [hnp]
        have e2 : ((nx : Int) != 16) = false := by simp [hnx]
        have Hnp2 := Lib.hid hnp
        clear hnp hnx
        cases inr with
        | false =>
          rw [if_pos rfl] at hR
          subst hR
          have c0 := k0.cell 0
          have c1 := k0.cell 1
          have c2 := k0.cell 2
          have c3 := k0.cell 3
          simp only [List.getElem?_cons_zero, List.getElem?_cons_succ] at c0 c1 c2 c3
          go_enter Tryz.func18, Tryz.ntmps18
          go_wp2_with (rw [hW0])
          refine HC0.out.mono ?_
          rintro e w1 ⟨rfl, hb1⟩
          have k1 := k0.step hb1
          have B1 := below_trans B0 hb1
          clear c0 c1 c2 c3 k0
          have k0 := k1
          have c0 := k0.cell 0
          have c1 := k0.cell 1
          have c2 := k0.cell 2
          have c3 := k0.cell 3
          simp only [List.getElem?_cons_zero, List.getElem?_cons_succ] at c0 c1 c2 c3
          go_wp2_with fail
          refine (HBw.out _).mono ?_
          rintro e w2 ⟨rfl, hb2⟩
          have B2 := below_trans B1 hb2
          go_wp2
          go_returns
          exact ⟨rfl, B2⟩
        | true =>
          rw [if_neg (by simp)] at hR
          have HR2 := Lib.hid hR
          clear hR
          have c0 := k0.cell 0
          have c1 := k0.cell 1
          have c2 := k0.cell 2
          have c3 := k0.cell 3
          simp only [List.getElem?_cons_zero, List.getElem?_cons_succ] at c0 c1 c2 c3
          go_enter Tryz.func18, Tryz.ntmps18
          go_wp2_with (rw [hW0])
          refine HC0.out.mono ?_
          rintro e w1 ⟨rfl, hb1⟩
          have k1 := k0.step hb1
          have B1 := below_trans B0 hb1
          clear c0 c1 c2 c3 k0
          have k0 := k1
          have c0 := k0.cell 0
          have c1 := k0.cell 1
          have c2 := k0.cell 2
          have c3 := k0.cell 3
          simp only [List.getElem?_cons_zero, List.getElem?_cons_succ] at c0 c1 c2 c3
          go_wp2_with fail
          refine (HBw.out _).mono ?_
          rintro e w2 ⟨rfl, hb2⟩
          have k2 := k1.step hb2
          have B2 := below_trans B1 hb2
          clear c0 c1 c2 c3 k0
          have k0 := k2
          have c0 := k0.cell 0
          have c1 := k0.cell 1
          have c2 := k0.cell 2
          have c3 := k0.cell 3
          simp only [List.getElem?_cons_zero, List.getElem?_cons_succ] at c0 c1 c2 c3
          go_wp2_with fail
          clear c0 c1 c2 c3 k0 e1 e2
          go_loopw [34] (fun i wr => ∃ (k : Nat), k ≤ nc ∧ i = .int .i64 (k : Int) ∧ Hid (∀ (j : Nat) (c : S14.C) (p : S14.P), j < k → N.comps[j]? = some c → N.parts[j]? = some p → S14.right c p pt = true) ∧
            Blk wr w.heap.size [.slice L.a1 nc L.c1, .slice L.a2 np L.c2, .slice L.a3 nx L.c3, .int .i64 pt] 26 ∧ Below w.heap.size w wr) (fun i _ => nc - (intOf i).toNat)
          case atStart => exact ⟨0, by omega, rfl, Lib.hid (fun j c p hj => by omega), k2, B2⟩
          case round =>
            clear k1 k2 B1 B2
            obtain ⟨k, hk, rfl, hall, k0, hB⟩ := hrel
            by_cases hlt : k < nc
            · have hkz : (k : Int) < (nc : Int) := by omega
              have hkz2 : (k : Int) < (np : Int) := by have := Hnp2.out; omega
              obtain ⟨x, hx⟩ : ∃ x, N.comps[k]? = some x := ⟨_, List.getElem?_eq_getElem (by have := Hnc.out; omega)⟩
              obtain ⟨g, o, hga, x0, x1, x2, x3, x4, x5⟩ := (HN.out.step hB).comp_at hx
              obtain ⟨g2, o2, p, y, hga2, hp, hy, hrgP, hPI⟩ := HN.out.part_at (k := k) (by have := Hnp.out; have := Hnp2.out; omega)
              have Hx := Lib.hid hx
              have Hp := Lib.hid hp
              have hokx := Hok.out k x hx
              have hkd := (S14.ok_is hokx).kind
              have hX2 := fun (W : World) (hW : Below w.heap.size w W) => HRH.out k x p y hx hokx hp hy W hW
              obtain ⟨q, hq⟩ : ∃ q, S14.right x p N.part = q := ⟨_, rfl⟩
              rw [hq, Hpt.out] at hX2
              rw [Hpt.out] at hq
              have Hq := Lib.hid hq
              have HBad := Lib.hid (fun (x' : S14.C) (h1 : N.comps[k]? = some x') (h2 : N.parts[k]? = some p) (h3 : S14.right x p pt = false) => (show R = 3 by
                rw [← HR2.out]
                refine if_neg (fun hA => ?_)
                have := hA k x p hx hp
                rw [Hpt.out, h3] at this
                cases this))
              rw [hga2] at k0 ⊢
              rw [hga] at k0 ⊢
              unfold PV at hX2
              have hi16 : some 16 = some (PVals p y).length := rfl
              obtain ⟨PQ, hPQ⟩ : ∃ PQ, PVals p y = PQ := ⟨_, rfl⟩
              rw [hPQ] at hX2 hrgP hi16
              obtain ⟨W5, hW5⟩ : ∃ W5, wr.alloc (.cells #[.int .i64 x.kind, .int .i64 x.bits, .int .i64 x.limit, .int .i64 x.rate, .int .i64 x.first, .int .i64 x.second] 54) = W5 := ⟨_, rfl⟩
              obtain ⟨Q, hQ⟩ : ∃ Q, wr.heap.size = Q := ⟨_, rfl⟩
              have kQ : Blk W5 Q [.int .i64 x.kind, .int .i64 x.bits, .int .i64 x.limit, .int .i64 x.rate, .int .i64 x.first, .int .i64 x.second] 54 := by rw [← hW5, ← hQ]; exact Blk.new wr _ _
              have hb5 : Below wr.heap.size wr W5 := by rw [← hW5]; exact (Below.refl _ _).alloc (Nat.le_refl _) _
              have k05 := k0.step hb5
              have B5 := below_trans hB hb5
              have hrp := fun (W : World) (hW : Below W5.heap.size W5 W) => rangeAt_step hrgP (below_trans B5 hW)
              have hCS : Cells W5 [(⟨Q, 0, none⟩, .int .i64 x.kind), (⟨Q, 1, none⟩, .int .i64 x.bits), (⟨Q, 2, none⟩, .int .i64 x.limit), (⟨Q, 3, none⟩, .int .i64 x.rate), (⟨Q, 4, none⟩, .int .i64 x.first), (⟨Q, 5, none⟩, .int .i64 x.second), (⟨w.heap.size, 1, none⟩, .slice (some ⟨g2, o2, none⟩) np L.c2), (⟨w.heap.size, 3, none⟩, .int .i64 pt)] := ⟨kQ.cell 0, kQ.cell 1, kQ.cell 2, kQ.cell 3, kQ.cell 4, kQ.cell 5, k05.cell 1, k05.cell 3, trivial⟩
              have hX4 := fun (W : World) (hW : Below W5.heap.size W5 W) => hX2 W (below_trans B5 hW)
              have c00 := k0.cell 0
              simp only [List.getElem?_cons_zero] at c00
              clear hb5 k0 hX2 hPQ hx hp hy hq hrgP hPI
              go_wp2_with (first | (rw [hW5, hQ]) | (rw [hW5]) | fail)
              unfold CV Cells14 RightF at hX4
              by_cases k0 : x.kind = 0
              · have hof : OfV x = .iface 115 (.agg #[.int .i64 x.kind, .int .i64 x.bits, .int .i64 x.limit, .int .i64 x.rate, .int .i64 x.first, .int .i64 x.second]) := by
                  unfold OfV CV Cells14; simp only [k0]; rfl
                have hX3 : ∀ W, Below W5.heap.size W5 W → Calls Tryz.prog 175 #[.agg #[.int .i64 x.kind, .int .i64 x.bits, .int .i64 x.limit, .int .i64 x.rate, .int .i64 x.first, .int .i64 x.second], .agg PQ.toArray, .int .i64 pt] W fun e w' => e = .returned (.bool q) ∧ Below W.heap.size W w' := fun W hW => by
                  have := hX4 W hW
                  simp only [k0] at this ⊢
                  exact this
                have HX := Lib.hid hX3
                have hen := enters_of Tryz.func175 (by kernel_rfl) rfl
                have hme := methRight_constant (.agg #[.int .i64 x.kind, .int .i64 x.bits, .int .i64 x.limit, .int .i64 x.rate, .int .i64 x.first, .int .i64 x.second])
                have hah := aheadRight_constant (.agg #[.int .i64 x.kind, .int .i64 x.bits, .int .i64 x.limit, .int .i64 x.rate, .int .i64 x.first, .int .i64 x.second])
                clear k0 hX4 hX3 hkd
                go_wp2_with fail
                refine wp_region_seq 14 0 [(true, [true, false, true, true, true, true, true, true, true]), (false, [false, true]), (true, [false, false, false, false, false, false, false, false, false, true, true, true]), (false, [false, false, false, false, false, false, false, false, false, false, false, false, true]), (true, [false, false, false, false, false, false, false, false, false, false, false, false, false, true])] _ _ (Keeps W5 [(⟨Q, 0, none⟩, .int .i64 x.kind), (⟨Q, 1, none⟩, .int .i64 x.bits), (⟨Q, 2, none⟩, .int .i64 x.limit), (⟨Q, 3, none⟩, .int .i64 x.rate), (⟨Q, 4, none⟩, .int .i64 x.first), (⟨Q, 5, none⟩, .int .i64 x.second), (⟨w.heap.size, 1, none⟩, .slice (some ⟨g2, o2, none⟩) np L.c2), (⟨w.heap.size, 3, none⟩, .int .i64 pt)]) (by kernel_rfl) (List.take_append_drop 14 _).symm (by kernel_rfl) (by kernel_rfl) (by kernel_rfl) (by kernel_rfl) (Keeps.start hCS) (fun Y Q4 F4 hY hF => ?_)
                simp only [phased, List.flatMap_cons, List.flatMap_nil, List.take_succ_cons, List.take_zero, List.drop_succ_cons, List.drop_zero, sel_true, sel_false, sel_nil, List.map_cons, List.map_nil, List.cons_append, List.nil_append, List.append_nil]
                repeat
                  apply wpSeq_read (by first | rfl | (rw [hY]; rfl))
                  · intro w2 hS2
                    (try simp only [Keeps, Cells] at hS2)
                    (try simp only [HasC, Cells] at hS2)
                    go_simp
                    with_reducible rfl
                  simp only [Act.put, List.setIfInBounds_toArray, List.set_cons_zero, List.set_cons_succ]
                repeat
                  first
                    | (apply wpSeq_read (by first | rfl | (rw [hY]; rfl))
                       · intro w2 hS2
                         exact exec_loadM 83 (.tmp 44) (by rfl) g2 (o2 + k * 16) (by rfl) PQ (hrp w2 hS2.1) _ Tryz.underlying83 rfl (info_P.trans hi16)
                       simp only [Act.put, List.setIfInBounds_toArray, List.set_cons_zero, List.set_cons_succ])
                    | (apply wpSeq_read (by first | rfl | (rw [hY]; rfl))
                       · intro w2 hS2
                         (try simp only [Keeps, Cells] at hS2)
                         go_simp
                         with_reducible rfl
                       simp only [Act.put, List.setIfInBounds_toArray, List.set_cons_zero, List.set_cons_succ])
                apply wpSeq_call (by first | rfl | (rw [hY]; rfl))
                · go_simp
                  with_reducible exact ⟨rfl, rfl⟩
                refine (HO.out x _).mono ?_
                rintro e w6 ⟨rfl, hb6⟩
                have hk6 := (Keeps.start hCS).step hb6
                refine ⟨_, rfl, hk6, ?_⟩
                simp only [Act.put, List.setIfInBounds_toArray, List.set_cons_zero, List.set_cons_succ]
                rw [hof]
                repeat
                  apply wpSeq_read (by first | rfl | (rw [hY]; rfl))
                  · intro w2 hS2
                    (try simp only [Keeps, Cells] at hS2)
                    (try simp only [HasC, Cells] at hS2)
                    go_simp
                    with_reducible rfl
                  simp only [Act.put, List.setIfInBounds_toArray, List.set_cons_zero, List.set_cons_succ]
                apply wpSeq_call (by first | rfl | (rw [hY]; rfl))
                · go_simp
                  with_reducible exact ⟨rfl, rfl⟩
                refine (HX.out w6 hk6.1).mono ?_
                rintro e w7 ⟨rfl, hb7⟩
                have hk7 := hk6.step hb7
                refine ⟨_, rfl, hk7, ?_⟩
                simp only [Act.put, List.setIfInBounds_toArray, List.set_cons_zero, List.set_cons_succ]
                repeat
                  apply wpSeq_read (by first | rfl | (rw [hY]; rfl))
                  · intro w2 hS2
                    (try simp only [Keeps, Cells] at hS2)
                    (try simp only [HasC, Cells] at hS2)
                    go_simp
                    with_reducible rfl
                  simp only [Act.put, List.setIfInBounds_toArray, List.set_cons_zero, List.set_cons_succ]
                refine wpSeq_done (hF.out _ _ (fun K hK => ?_))
                clear hF hY
                refine OnlyK.mk (hK.out _ _ ?_)
                clear hK
                have B7 := below_trans B5 hk7.1
                have k07 := k05.step hk7.1
                cases q with
                | false =>
                  obtain rfl := HBad.out x Hx.out Hp.out Hq.out
                  go_wp2
                  go_returns
                  exact ⟨rfl, B7⟩
                | true =>
                  go_wp2
                  go_roundw
                  case rel =>
                    refine ⟨k + 1, by omega, by simp, Lib.hid (fun j c' p' hj h1 h2 => ?_), k07, B7⟩
                    rcases Nat.lt_succ_iff_lt_or_eq.1 hj with h | rfl
                    · exact hall.out j c' p' h h1 h2
                    · have e1 := Hx.out; rw [h1] at e1; cases e1
                      have e2 := Hp.out; rw [h2] at e2; cases e2
                      exact Hq.out
                  case measure => simp [intOf]; omega
              by_cases k1 : x.kind = 1
              · have hof : OfV x = .iface 116 (.agg #[.int .i64 x.kind, .int .i64 x.bits, .int .i64 x.limit, .int .i64 x.rate, .int .i64 x.first, .int .i64 x.second]) := by
                  unfold OfV CV Cells14; simp only [k1]; rfl
                have hX3 : ∀ W, Below W5.heap.size W5 W → Calls Tryz.prog 188 #[.agg #[.int .i64 x.kind, .int .i64 x.bits, .int .i64 x.limit, .int .i64 x.rate, .int .i64 x.first, .int .i64 x.second], .agg PQ.toArray, .int .i64 pt] W fun e w' => e = .returned (.bool q) ∧ Below W.heap.size W w' := fun W hW => by
                  have := hX4 W hW
                  simp only [k1] at this ⊢
                  exact this
                have HX := Lib.hid hX3
                have hen := enters_of Tryz.func188 (by kernel_rfl) rfl
                have hme := methRight_direct (.agg #[.int .i64 x.kind, .int .i64 x.bits, .int .i64 x.limit, .int .i64 x.rate, .int .i64 x.first, .int .i64 x.second])
                have hah := aheadRight_direct (.agg #[.int .i64 x.kind, .int .i64 x.bits, .int .i64 x.limit, .int .i64 x.rate, .int .i64 x.first, .int .i64 x.second])
                clear k1 hX4 hX3 hkd
                go_wp2_with fail
                refine wp_region_seq 14 0 [(true, [true, false, true, true, true, true, true, true, true]), (false, [false, true]), (true, [false, false, false, false, false, false, false, false, false, true, true, true]), (false, [false, false, false, false, false, false, false, false, false, false, false, false, true]), (true, [false, false, false, false, false, false, false, false, false, false, false, false, false, true])] _ _ (Keeps W5 [(⟨Q, 0, none⟩, .int .i64 x.kind), (⟨Q, 1, none⟩, .int .i64 x.bits), (⟨Q, 2, none⟩, .int .i64 x.limit), (⟨Q, 3, none⟩, .int .i64 x.rate), (⟨Q, 4, none⟩, .int .i64 x.first), (⟨Q, 5, none⟩, .int .i64 x.second), (⟨w.heap.size, 1, none⟩, .slice (some ⟨g2, o2, none⟩) np L.c2), (⟨w.heap.size, 3, none⟩, .int .i64 pt)]) (by kernel_rfl) (List.take_append_drop 14 _).symm (by kernel_rfl) (by kernel_rfl) (by kernel_rfl) (by kernel_rfl) (Keeps.start hCS) (fun Y Q4 F4 hY hF => ?_)
                simp only [phased, List.flatMap_cons, List.flatMap_nil, List.take_succ_cons, List.take_zero, List.drop_succ_cons, List.drop_zero, sel_true, sel_false, sel_nil, List.map_cons, List.map_nil, List.cons_append, List.nil_append, List.append_nil]
                repeat
                  apply wpSeq_read (by first | rfl | (rw [hY]; rfl))
                  · intro w2 hS2
                    (try simp only [Keeps, Cells] at hS2)
                    (try simp only [HasC, Cells] at hS2)
                    go_simp
                    with_reducible rfl
                  simp only [Act.put, List.setIfInBounds_toArray, List.set_cons_zero, List.set_cons_succ]
                repeat
                  first
                    | (apply wpSeq_read (by first | rfl | (rw [hY]; rfl))
                       · intro w2 hS2
                         exact exec_loadM 83 (.tmp 44) (by rfl) g2 (o2 + k * 16) (by rfl) PQ (hrp w2 hS2.1) _ Tryz.underlying83 rfl (info_P.trans hi16)
                       simp only [Act.put, List.setIfInBounds_toArray, List.set_cons_zero, List.set_cons_succ])
                    | (apply wpSeq_read (by first | rfl | (rw [hY]; rfl))
                       · intro w2 hS2
                         (try simp only [Keeps, Cells] at hS2)
                         go_simp
                         with_reducible rfl
                       simp only [Act.put, List.setIfInBounds_toArray, List.set_cons_zero, List.set_cons_succ])
                apply wpSeq_call (by first | rfl | (rw [hY]; rfl))
                · go_simp
                  with_reducible exact ⟨rfl, rfl⟩
                refine (HO.out x _).mono ?_
                rintro e w6 ⟨rfl, hb6⟩
                have hk6 := (Keeps.start hCS).step hb6
                refine ⟨_, rfl, hk6, ?_⟩
                simp only [Act.put, List.setIfInBounds_toArray, List.set_cons_zero, List.set_cons_succ]
                rw [hof]
                repeat
                  apply wpSeq_read (by first | rfl | (rw [hY]; rfl))
                  · intro w2 hS2
                    (try simp only [Keeps, Cells] at hS2)
                    (try simp only [HasC, Cells] at hS2)
                    go_simp
                    with_reducible rfl
                  simp only [Act.put, List.setIfInBounds_toArray, List.set_cons_zero, List.set_cons_succ]
                apply wpSeq_call (by first | rfl | (rw [hY]; rfl))
                · go_simp
                  with_reducible exact ⟨rfl, rfl⟩
                refine (HX.out w6 hk6.1).mono ?_
                rintro e w7 ⟨rfl, hb7⟩
                have hk7 := hk6.step hb7
                refine ⟨_, rfl, hk7, ?_⟩
                simp only [Act.put, List.setIfInBounds_toArray, List.set_cons_zero, List.set_cons_succ]
                repeat
                  apply wpSeq_read (by first | rfl | (rw [hY]; rfl))
                  · intro w2 hS2
                    (try simp only [Keeps, Cells] at hS2)
                    (try simp only [HasC, Cells] at hS2)
                    go_simp
                    with_reducible rfl
                  simp only [Act.put, List.setIfInBounds_toArray, List.set_cons_zero, List.set_cons_succ]
                refine wpSeq_done (hF.out _ _ (fun K hK => ?_))
                clear hF hY
                refine OnlyK.mk (hK.out _ _ ?_)
                clear hK
                have B7 := below_trans B5 hk7.1
                have k07 := k05.step hk7.1
                cases q with
                | false =>
                  obtain rfl := HBad.out x Hx.out Hp.out Hq.out
                  go_wp2
                  go_returns
                  exact ⟨rfl, B7⟩
                | true =>
                  go_wp2
                  go_roundw
                  case rel =>
                    refine ⟨k + 1, by omega, by simp, Lib.hid (fun j c' p' hj h1 h2 => ?_), k07, B7⟩
                    rcases Nat.lt_succ_iff_lt_or_eq.1 hj with h | rfl
                    · exact hall.out j c' p' h h1 h2
                    · have e1 := Hx.out; rw [h1] at e1; cases e1
                      have e2 := Hp.out; rw [h2] at e2; cases e2
                      exact Hq.out
                  case measure => simp [intOf]; omega
              by_cases k2 : x.kind = 2
              · have hof : OfV x = .iface 117 (.agg #[.int .i64 x.kind, .int .i64 x.bits, .int .i64 x.limit, .int .i64 x.rate, .int .i64 x.first, .int .i64 x.second]) := by
                  unfold OfV CV Cells14; simp only [k2]; rfl
                have hX3 : ∀ W, Below W5.heap.size W5 W → Calls Tryz.prog 217 #[.agg #[.int .i64 x.kind, .int .i64 x.bits, .int .i64 x.limit, .int .i64 x.rate, .int .i64 x.first, .int .i64 x.second], .agg PQ.toArray, .int .i64 pt] W fun e w' => e = .returned (.bool q) ∧ Below W.heap.size W w' := fun W hW => by
                  have := hX4 W hW
                  simp only [k2] at this ⊢
                  exact this
                have HX := Lib.hid hX3
                have hen := enters_of Tryz.func217 (by kernel_rfl) rfl
                have hme := methRight_history (.agg #[.int .i64 x.kind, .int .i64 x.bits, .int .i64 x.limit, .int .i64 x.rate, .int .i64 x.first, .int .i64 x.second])
                have hah := aheadRight_history (.agg #[.int .i64 x.kind, .int .i64 x.bits, .int .i64 x.limit, .int .i64 x.rate, .int .i64 x.first, .int .i64 x.second])
                clear k2 hX4 hX3 hkd
                go_wp2_with fail
                refine wp_region_seq 14 0 [(true, [true, false, true, true, true, true, true, true, true]), (false, [false, true]), (true, [false, false, false, false, false, false, false, false, false, true, true, true]), (false, [false, false, false, false, false, false, false, false, false, false, false, false, true]), (true, [false, false, false, false, false, false, false, false, false, false, false, false, false, true])] _ _ (Keeps W5 [(⟨Q, 0, none⟩, .int .i64 x.kind), (⟨Q, 1, none⟩, .int .i64 x.bits), (⟨Q, 2, none⟩, .int .i64 x.limit), (⟨Q, 3, none⟩, .int .i64 x.rate), (⟨Q, 4, none⟩, .int .i64 x.first), (⟨Q, 5, none⟩, .int .i64 x.second), (⟨w.heap.size, 1, none⟩, .slice (some ⟨g2, o2, none⟩) np L.c2), (⟨w.heap.size, 3, none⟩, .int .i64 pt)]) (by kernel_rfl) (List.take_append_drop 14 _).symm (by kernel_rfl) (by kernel_rfl) (by kernel_rfl) (by kernel_rfl) (Keeps.start hCS) (fun Y Q4 F4 hY hF => ?_)
                simp only [phased, List.flatMap_cons, List.flatMap_nil, List.take_succ_cons, List.take_zero, List.drop_succ_cons, List.drop_zero, sel_true, sel_false, sel_nil, List.map_cons, List.map_nil, List.cons_append, List.nil_append, List.append_nil]
                repeat
                  apply wpSeq_read (by first | rfl | (rw [hY]; rfl))
                  · intro w2 hS2
                    (try simp only [Keeps, Cells] at hS2)
                    (try simp only [HasC, Cells] at hS2)
                    go_simp
                    with_reducible rfl
                  simp only [Act.put, List.setIfInBounds_toArray, List.set_cons_zero, List.set_cons_succ]
                repeat
                  first
                    | (apply wpSeq_read (by first | rfl | (rw [hY]; rfl))
                       · intro w2 hS2
                         exact exec_loadM 83 (.tmp 44) (by rfl) g2 (o2 + k * 16) (by rfl) PQ (hrp w2 hS2.1) _ Tryz.underlying83 rfl (info_P.trans hi16)
                       simp only [Act.put, List.setIfInBounds_toArray, List.set_cons_zero, List.set_cons_succ])
                    | (apply wpSeq_read (by first | rfl | (rw [hY]; rfl))
                       · intro w2 hS2
                         (try simp only [Keeps, Cells] at hS2)
                         go_simp
                         with_reducible rfl
                       simp only [Act.put, List.setIfInBounds_toArray, List.set_cons_zero, List.set_cons_succ])
                apply wpSeq_call (by first | rfl | (rw [hY]; rfl))
                · go_simp
                  with_reducible exact ⟨rfl, rfl⟩
                refine (HO.out x _).mono ?_
                rintro e w6 ⟨rfl, hb6⟩
                have hk6 := (Keeps.start hCS).step hb6
                refine ⟨_, rfl, hk6, ?_⟩
                simp only [Act.put, List.setIfInBounds_toArray, List.set_cons_zero, List.set_cons_succ]
                rw [hof]
                repeat
                  apply wpSeq_read (by first | rfl | (rw [hY]; rfl))
                  · intro w2 hS2
                    (try simp only [Keeps, Cells] at hS2)
                    (try simp only [HasC, Cells] at hS2)
                    go_simp
                    with_reducible rfl
                  simp only [Act.put, List.setIfInBounds_toArray, List.set_cons_zero, List.set_cons_succ]
                apply wpSeq_call (by first | rfl | (rw [hY]; rfl))
                · go_simp
                  with_reducible exact ⟨rfl, rfl⟩
                refine (HX.out w6 hk6.1).mono ?_
                rintro e w7 ⟨rfl, hb7⟩
                have hk7 := hk6.step hb7
                refine ⟨_, rfl, hk7, ?_⟩
                simp only [Act.put, List.setIfInBounds_toArray, List.set_cons_zero, List.set_cons_succ]
                repeat
                  apply wpSeq_read (by first | rfl | (rw [hY]; rfl))
                  · intro w2 hS2
                    (try simp only [Keeps, Cells] at hS2)
                    (try simp only [HasC, Cells] at hS2)
                    go_simp
                    with_reducible rfl
                  simp only [Act.put, List.setIfInBounds_toArray, List.set_cons_zero, List.set_cons_succ]
                refine wpSeq_done (hF.out _ _ (fun K hK => ?_))
                clear hF hY
                refine OnlyK.mk (hK.out _ _ ?_)
                clear hK
                have B7 := below_trans B5 hk7.1
                have k07 := k05.step hk7.1
                cases q with
                | false =>
                  obtain rfl := HBad.out x Hx.out Hp.out Hq.out
                  go_wp2
                  go_returns
                  exact ⟨rfl, B7⟩
                | true =>
                  go_wp2
                  go_roundw
                  case rel =>
                    refine ⟨k + 1, by omega, by simp, Lib.hid (fun j c' p' hj h1 h2 => ?_), k07, B7⟩
                    rcases Nat.lt_succ_iff_lt_or_eq.1 hj with h | rfl
                    · exact hall.out j c' p' h h1 h2
                    · have e1 := Hx.out; rw [h1] at e1; cases e1
                      have e2 := Hp.out; rw [h2] at e2; cases e2
                      exact Hq.out
                  case measure => simp [intOf]; omega
              by_cases k3 : x.kind = 3
              · have hof : OfV x = .iface 118 (.agg #[.int .i64 x.kind, .int .i64 x.bits, .int .i64 x.limit, .int .i64 x.rate, .int .i64 x.first, .int .i64 x.second]) := by
                  unfold OfV CV Cells14; simp only [k3]; rfl
                have hX3 : ∀ W, Below W5.heap.size W5 W → Calls Tryz.prog 233 #[.agg #[.int .i64 x.kind, .int .i64 x.bits, .int .i64 x.limit, .int .i64 x.rate, .int .i64 x.first, .int .i64 x.second], .agg PQ.toArray, .int .i64 pt] W fun e w' => e = .returned (.bool q) ∧ Below W.heap.size W w' := fun W hW => by
                  have := hX4 W hW
                  simp only [k3] at this ⊢
                  exact this
                have HX := Lib.hid hX3
                have hen := enters_of Tryz.func233 (by kernel_rfl) rfl
                have hme := methRight_matched (.agg #[.int .i64 x.kind, .int .i64 x.bits, .int .i64 x.limit, .int .i64 x.rate, .int .i64 x.first, .int .i64 x.second])
                have hah := aheadRight_matched (.agg #[.int .i64 x.kind, .int .i64 x.bits, .int .i64 x.limit, .int .i64 x.rate, .int .i64 x.first, .int .i64 x.second])
                clear k3 hX4 hX3 hkd
                go_wp2_with fail
                refine wp_region_seq 14 0 [(true, [true, false, true, true, true, true, true, true, true]), (false, [false, true]), (true, [false, false, false, false, false, false, false, false, false, true, true, true]), (false, [false, false, false, false, false, false, false, false, false, false, false, false, true]), (true, [false, false, false, false, false, false, false, false, false, false, false, false, false, true])] _ _ (Keeps W5 [(⟨Q, 0, none⟩, .int .i64 x.kind), (⟨Q, 1, none⟩, .int .i64 x.bits), (⟨Q, 2, none⟩, .int .i64 x.limit), (⟨Q, 3, none⟩, .int .i64 x.rate), (⟨Q, 4, none⟩, .int .i64 x.first), (⟨Q, 5, none⟩, .int .i64 x.second), (⟨w.heap.size, 1, none⟩, .slice (some ⟨g2, o2, none⟩) np L.c2), (⟨w.heap.size, 3, none⟩, .int .i64 pt)]) (by kernel_rfl) (List.take_append_drop 14 _).symm (by kernel_rfl) (by kernel_rfl) (by kernel_rfl) (by kernel_rfl) (Keeps.start hCS) (fun Y Q4 F4 hY hF => ?_)
                simp only [phased, List.flatMap_cons, List.flatMap_nil, List.take_succ_cons, List.take_zero, List.drop_succ_cons, List.drop_zero, sel_true, sel_false, sel_nil, List.map_cons, List.map_nil, List.cons_append, List.nil_append, List.append_nil]
                repeat
                  apply wpSeq_read (by first | rfl | (rw [hY]; rfl))
                  · intro w2 hS2
                    (try simp only [Keeps, Cells] at hS2)
                    (try simp only [HasC, Cells] at hS2)
                    go_simp
                    with_reducible rfl
                  simp only [Act.put, List.setIfInBounds_toArray, List.set_cons_zero, List.set_cons_succ]
                repeat
                  first
                    | (apply wpSeq_read (by first | rfl | (rw [hY]; rfl))
                       · intro w2 hS2
                         exact exec_loadM 83 (.tmp 44) (by rfl) g2 (o2 + k * 16) (by rfl) PQ (hrp w2 hS2.1) _ Tryz.underlying83 rfl (info_P.trans hi16)
                       simp only [Act.put, List.setIfInBounds_toArray, List.set_cons_zero, List.set_cons_succ])
                    | (apply wpSeq_read (by first | rfl | (rw [hY]; rfl))
                       · intro w2 hS2
                         (try simp only [Keeps, Cells] at hS2)
                         go_simp
                         with_reducible rfl
                       simp only [Act.put, List.setIfInBounds_toArray, List.set_cons_zero, List.set_cons_succ])
                apply wpSeq_call (by first | rfl | (rw [hY]; rfl))
                · go_simp
                  with_reducible exact ⟨rfl, rfl⟩
                refine (HO.out x _).mono ?_
                rintro e w6 ⟨rfl, hb6⟩
                have hk6 := (Keeps.start hCS).step hb6
                refine ⟨_, rfl, hk6, ?_⟩
                simp only [Act.put, List.setIfInBounds_toArray, List.set_cons_zero, List.set_cons_succ]
                rw [hof]
                repeat
                  apply wpSeq_read (by first | rfl | (rw [hY]; rfl))
                  · intro w2 hS2
                    (try simp only [Keeps, Cells] at hS2)
                    (try simp only [HasC, Cells] at hS2)
                    go_simp
                    with_reducible rfl
                  simp only [Act.put, List.setIfInBounds_toArray, List.set_cons_zero, List.set_cons_succ]
                apply wpSeq_call (by first | rfl | (rw [hY]; rfl))
                · go_simp
                  with_reducible exact ⟨rfl, rfl⟩
                refine (HX.out w6 hk6.1).mono ?_
                rintro e w7 ⟨rfl, hb7⟩
                have hk7 := hk6.step hb7
                refine ⟨_, rfl, hk7, ?_⟩
                simp only [Act.put, List.setIfInBounds_toArray, List.set_cons_zero, List.set_cons_succ]
                repeat
                  apply wpSeq_read (by first | rfl | (rw [hY]; rfl))
                  · intro w2 hS2
                    (try simp only [Keeps, Cells] at hS2)
                    (try simp only [HasC, Cells] at hS2)
                    go_simp
                    with_reducible rfl
                  simp only [Act.put, List.setIfInBounds_toArray, List.set_cons_zero, List.set_cons_succ]
                refine wpSeq_done (hF.out _ _ (fun K hK => ?_))
                clear hF hY
                refine OnlyK.mk (hK.out _ _ ?_)
                clear hK
                have B7 := below_trans B5 hk7.1
                have k07 := k05.step hk7.1
                cases q with
                | false =>
                  obtain rfl := HBad.out x Hx.out Hp.out Hq.out
                  go_wp2
                  go_returns
                  exact ⟨rfl, B7⟩
                | true =>
                  go_wp2
                  go_roundw
                  case rel =>
                    refine ⟨k + 1, by omega, by simp, Lib.hid (fun j c' p' hj h1 h2 => ?_), k07, B7⟩
                    rcases Nat.lt_succ_iff_lt_or_eq.1 hj with h | rfl
                    · exact hall.out j c' p' h h1 h2
                    · have e1 := Hx.out; rw [h1] at e1; cases e1
                      have e2 := Hp.out; rw [h2] at e2; cases e2
                      exact Hq.out
                  case measure => simp [intOf]; omega
              by_cases k4 : x.kind = 4
              · have hof : OfV x = .iface 119 (.agg #[.int .i64 x.kind, .int .i64 x.bits, .int .i64 x.limit, .int .i64 x.rate, .int .i64 x.first, .int .i64 x.second]) := by
                  unfold OfV CV Cells14; simp only [k4]; rfl
                have hX3 : ∀ W, Below W5.heap.size W5 W → Calls Tryz.prog 260 #[.agg #[.int .i64 x.kind, .int .i64 x.bits, .int .i64 x.limit, .int .i64 x.rate, .int .i64 x.first, .int .i64 x.second], .agg PQ.toArray, .int .i64 pt] W fun e w' => e = .returned (.bool q) ∧ Below W.heap.size W w' := fun W hW => by
                  have := hX4 W hW
                  simp only [k4] at this ⊢
                  exact this
                have HX := Lib.hid hX3
                have hen := enters_of Tryz.func260 (by kernel_rfl) rfl
                have hme := methRight_average (.agg #[.int .i64 x.kind, .int .i64 x.bits, .int .i64 x.limit, .int .i64 x.rate, .int .i64 x.first, .int .i64 x.second])
                have hah := aheadRight_average (.agg #[.int .i64 x.kind, .int .i64 x.bits, .int .i64 x.limit, .int .i64 x.rate, .int .i64 x.first, .int .i64 x.second])
                clear k4 hX4 hX3 hkd
                go_wp2_with fail
                refine wp_region_seq 14 0 [(true, [true, false, true, true, true, true, true, true, true]), (false, [false, true]), (true, [false, false, false, false, false, false, false, false, false, true, true, true]), (false, [false, false, false, false, false, false, false, false, false, false, false, false, true]), (true, [false, false, false, false, false, false, false, false, false, false, false, false, false, true])] _ _ (Keeps W5 [(⟨Q, 0, none⟩, .int .i64 x.kind), (⟨Q, 1, none⟩, .int .i64 x.bits), (⟨Q, 2, none⟩, .int .i64 x.limit), (⟨Q, 3, none⟩, .int .i64 x.rate), (⟨Q, 4, none⟩, .int .i64 x.first), (⟨Q, 5, none⟩, .int .i64 x.second), (⟨w.heap.size, 1, none⟩, .slice (some ⟨g2, o2, none⟩) np L.c2), (⟨w.heap.size, 3, none⟩, .int .i64 pt)]) (by kernel_rfl) (List.take_append_drop 14 _).symm (by kernel_rfl) (by kernel_rfl) (by kernel_rfl) (by kernel_rfl) (Keeps.start hCS) (fun Y Q4 F4 hY hF => ?_)
                simp only [phased, List.flatMap_cons, List.flatMap_nil, List.take_succ_cons, List.take_zero, List.drop_succ_cons, List.drop_zero, sel_true, sel_false, sel_nil, List.map_cons, List.map_nil, List.cons_append, List.nil_append, List.append_nil]
                repeat
                  apply wpSeq_read (by first | rfl | (rw [hY]; rfl))
                  · intro w2 hS2
                    (try simp only [Keeps, Cells] at hS2)
                    (try simp only [HasC, Cells] at hS2)
                    go_simp
                    with_reducible rfl
                  simp only [Act.put, List.setIfInBounds_toArray, List.set_cons_zero, List.set_cons_succ]
                repeat
                  first
                    | (apply wpSeq_read (by first | rfl | (rw [hY]; rfl))
                       · intro w2 hS2
                         exact exec_loadM 83 (.tmp 44) (by rfl) g2 (o2 + k * 16) (by rfl) PQ (hrp w2 hS2.1) _ Tryz.underlying83 rfl (info_P.trans hi16)
                       simp only [Act.put, List.setIfInBounds_toArray, List.set_cons_zero, List.set_cons_succ])
                    | (apply wpSeq_read (by first | rfl | (rw [hY]; rfl))
                       · intro w2 hS2
                         (try simp only [Keeps, Cells] at hS2)
                         go_simp
                         with_reducible rfl
                       simp only [Act.put, List.setIfInBounds_toArray, List.set_cons_zero, List.set_cons_succ])
                apply wpSeq_call (by first | rfl | (rw [hY]; rfl))
                · go_simp
                  with_reducible exact ⟨rfl, rfl⟩
                refine (HO.out x _).mono ?_
                rintro e w6 ⟨rfl, hb6⟩
                have hk6 := (Keeps.start hCS).step hb6
                refine ⟨_, rfl, hk6, ?_⟩
                simp only [Act.put, List.setIfInBounds_toArray, List.set_cons_zero, List.set_cons_succ]
                rw [hof]
                repeat
                  apply wpSeq_read (by first | rfl | (rw [hY]; rfl))
                  · intro w2 hS2
                    (try simp only [Keeps, Cells] at hS2)
                    (try simp only [HasC, Cells] at hS2)
                    go_simp
                    with_reducible rfl
                  simp only [Act.put, List.setIfInBounds_toArray, List.set_cons_zero, List.set_cons_succ]
                apply wpSeq_call (by first | rfl | (rw [hY]; rfl))
                · go_simp
                  with_reducible exact ⟨rfl, rfl⟩
                refine (HX.out w6 hk6.1).mono ?_
                rintro e w7 ⟨rfl, hb7⟩
                have hk7 := hk6.step hb7
                refine ⟨_, rfl, hk7, ?_⟩
                simp only [Act.put, List.setIfInBounds_toArray, List.set_cons_zero, List.set_cons_succ]
                repeat
                  apply wpSeq_read (by first | rfl | (rw [hY]; rfl))
                  · intro w2 hS2
                    (try simp only [Keeps, Cells] at hS2)
                    (try simp only [HasC, Cells] at hS2)
                    go_simp
                    with_reducible rfl
                  simp only [Act.put, List.setIfInBounds_toArray, List.set_cons_zero, List.set_cons_succ]
                refine wpSeq_done (hF.out _ _ (fun K hK => ?_))
                clear hF hY
                refine OnlyK.mk (hK.out _ _ ?_)
                clear hK
                have B7 := below_trans B5 hk7.1
                have k07 := k05.step hk7.1
                cases q with
                | false =>
                  obtain rfl := HBad.out x Hx.out Hp.out Hq.out
                  go_wp2
                  go_returns
                  exact ⟨rfl, B7⟩
                | true =>
                  go_wp2
                  go_roundw
                  case rel =>
                    refine ⟨k + 1, by omega, by simp, Lib.hid (fun j c' p' hj h1 h2 => ?_), k07, B7⟩
                    rcases Nat.lt_succ_iff_lt_or_eq.1 hj with h | rfl
                    · exact hall.out j c' p' h h1 h2
                    · have e1 := Hx.out; rw [h1] at e1; cases e1
                      have e2 := Hp.out; rw [h2] at e2; cases e2
                      exact Hq.out
                  case measure => simp [intOf]; omega
              by_cases k5 : x.kind = 5
              · have hof : OfV x = .iface 120 (.agg #[.int .i64 x.kind, .int .i64 x.bits, .int .i64 x.limit, .int .i64 x.rate, .int .i64 x.first, .int .i64 x.second]) := by
                  unfold OfV CV Cells14; simp only [k5]; rfl
                have hX3 : ∀ W, Below W5.heap.size W5 W → Calls Tryz.prog 268 #[.agg #[.int .i64 x.kind, .int .i64 x.bits, .int .i64 x.limit, .int .i64 x.rate, .int .i64 x.first, .int .i64 x.second], .agg PQ.toArray, .int .i64 pt] W fun e w' => e = .returned (.bool q) ∧ Below W.heap.size W w' := fun W hW => by
                  have := hX4 W hW
                  simp only [k5] at this ⊢
                  exact this
                have HX := Lib.hid hX3
                have hen := enters_of Tryz.func268 (by kernel_rfl) rfl
                have hme := methRight_mixed (.agg #[.int .i64 x.kind, .int .i64 x.bits, .int .i64 x.limit, .int .i64 x.rate, .int .i64 x.first, .int .i64 x.second])
                have hah := aheadRight_mixed (.agg #[.int .i64 x.kind, .int .i64 x.bits, .int .i64 x.limit, .int .i64 x.rate, .int .i64 x.first, .int .i64 x.second])
                clear k5 hX4 hX3 hkd
                go_wp2_with fail
                refine wp_region_seq 14 0 [(true, [true, false, true, true, true, true, true, true, true]), (false, [false, true]), (true, [false, false, false, false, false, false, false, false, false, true, true, true]), (false, [false, false, false, false, false, false, false, false, false, false, false, false, true]), (true, [false, false, false, false, false, false, false, false, false, false, false, false, false, true])] _ _ (Keeps W5 [(⟨Q, 0, none⟩, .int .i64 x.kind), (⟨Q, 1, none⟩, .int .i64 x.bits), (⟨Q, 2, none⟩, .int .i64 x.limit), (⟨Q, 3, none⟩, .int .i64 x.rate), (⟨Q, 4, none⟩, .int .i64 x.first), (⟨Q, 5, none⟩, .int .i64 x.second), (⟨w.heap.size, 1, none⟩, .slice (some ⟨g2, o2, none⟩) np L.c2), (⟨w.heap.size, 3, none⟩, .int .i64 pt)]) (by kernel_rfl) (List.take_append_drop 14 _).symm (by kernel_rfl) (by kernel_rfl) (by kernel_rfl) (by kernel_rfl) (Keeps.start hCS) (fun Y Q4 F4 hY hF => ?_)
                simp only [phased, List.flatMap_cons, List.flatMap_nil, List.take_succ_cons, List.take_zero, List.drop_succ_cons, List.drop_zero, sel_true, sel_false, sel_nil, List.map_cons, List.map_nil, List.cons_append, List.nil_append, List.append_nil]
                repeat
                  apply wpSeq_read (by first | rfl | (rw [hY]; rfl))
                  · intro w2 hS2
                    (try simp only [Keeps, Cells] at hS2)
                    (try simp only [HasC, Cells] at hS2)
                    go_simp
                    with_reducible rfl
                  simp only [Act.put, List.setIfInBounds_toArray, List.set_cons_zero, List.set_cons_succ]
                repeat
                  first
                    | (apply wpSeq_read (by first | rfl | (rw [hY]; rfl))
                       · intro w2 hS2
                         exact exec_loadM 83 (.tmp 44) (by rfl) g2 (o2 + k * 16) (by rfl) PQ (hrp w2 hS2.1) _ Tryz.underlying83 rfl (info_P.trans hi16)
                       simp only [Act.put, List.setIfInBounds_toArray, List.set_cons_zero, List.set_cons_succ])
                    | (apply wpSeq_read (by first | rfl | (rw [hY]; rfl))
                       · intro w2 hS2
                         (try simp only [Keeps, Cells] at hS2)
                         go_simp
                         with_reducible rfl
                       simp only [Act.put, List.setIfInBounds_toArray, List.set_cons_zero, List.set_cons_succ])
                apply wpSeq_call (by first | rfl | (rw [hY]; rfl))
                · go_simp
                  with_reducible exact ⟨rfl, rfl⟩
                refine (HO.out x _).mono ?_
                rintro e w6 ⟨rfl, hb6⟩
                have hk6 := (Keeps.start hCS).step hb6
                refine ⟨_, rfl, hk6, ?_⟩
                simp only [Act.put, List.setIfInBounds_toArray, List.set_cons_zero, List.set_cons_succ]
                rw [hof]
                repeat
                  apply wpSeq_read (by first | rfl | (rw [hY]; rfl))
                  · intro w2 hS2
                    (try simp only [Keeps, Cells] at hS2)
                    (try simp only [HasC, Cells] at hS2)
                    go_simp
                    with_reducible rfl
                  simp only [Act.put, List.setIfInBounds_toArray, List.set_cons_zero, List.set_cons_succ]
                apply wpSeq_call (by first | rfl | (rw [hY]; rfl))
                · go_simp
                  with_reducible exact ⟨rfl, rfl⟩
                refine (HX.out w6 hk6.1).mono ?_
                rintro e w7 ⟨rfl, hb7⟩
                have hk7 := hk6.step hb7
                refine ⟨_, rfl, hk7, ?_⟩
                simp only [Act.put, List.setIfInBounds_toArray, List.set_cons_zero, List.set_cons_succ]
                repeat
                  apply wpSeq_read (by first | rfl | (rw [hY]; rfl))
                  · intro w2 hS2
                    (try simp only [Keeps, Cells] at hS2)
                    (try simp only [HasC, Cells] at hS2)
                    go_simp
                    with_reducible rfl
                  simp only [Act.put, List.setIfInBounds_toArray, List.set_cons_zero, List.set_cons_succ]
                refine wpSeq_done (hF.out _ _ (fun K hK => ?_))
                clear hF hY
                refine OnlyK.mk (hK.out _ _ ?_)
                clear hK
                have B7 := below_trans B5 hk7.1
                have k07 := k05.step hk7.1
                cases q with
                | false =>
                  obtain rfl := HBad.out x Hx.out Hp.out Hq.out
                  go_wp2
                  go_returns
                  exact ⟨rfl, B7⟩
                | true =>
                  go_wp2
                  go_roundw
                  case rel =>
                    refine ⟨k + 1, by omega, by simp, Lib.hid (fun j c' p' hj h1 h2 => ?_), k07, B7⟩
                    rcases Nat.lt_succ_iff_lt_or_eq.1 hj with h | rfl
                    · exact hall.out j c' p' h h1 h2
                    · have e1 := Hx.out; rw [h1] at e1; cases e1
                      have e2 := Hp.out; rw [h2] at e2; cases e2
                      exact Hq.out
                  case measure => simp [intOf]; omega
              by_cases k6 : x.kind = 6
              · have hof : OfV x = .iface 121 (.agg #[.int .i64 x.kind, .int .i64 x.bits, .int .i64 x.limit, .int .i64 x.rate, .int .i64 x.first, .int .i64 x.second]) := by
                  unfold OfV CV Cells14; simp only [k6]; rfl
                have hX3 : ∀ W, Below W5.heap.size W5 W → Calls Tryz.prog 288 #[.agg #[.int .i64 x.kind, .int .i64 x.bits, .int .i64 x.limit, .int .i64 x.rate, .int .i64 x.first, .int .i64 x.second], .agg PQ.toArray, .int .i64 pt] W fun e w' => e = .returned (.bool q) ∧ Below W.heap.size W w' := fun W hW => by
                  have := hX4 W hW
                  simp only [k6] at this ⊢
                  exact this
                have HX := Lib.hid hX3
                have hen := enters_of Tryz.func288 (by kernel_rfl) rfl
                have hme := methRight_refined (.agg #[.int .i64 x.kind, .int .i64 x.bits, .int .i64 x.limit, .int .i64 x.rate, .int .i64 x.first, .int .i64 x.second])
                have hah := aheadRight_refined (.agg #[.int .i64 x.kind, .int .i64 x.bits, .int .i64 x.limit, .int .i64 x.rate, .int .i64 x.first, .int .i64 x.second])
                clear k6 hX4 hX3 hkd
                go_wp2_with fail
                refine wp_region_seq 14 0 [(true, [true, false, true, true, true, true, true, true, true]), (false, [false, true]), (true, [false, false, false, false, false, false, false, false, false, true, true, true]), (false, [false, false, false, false, false, false, false, false, false, false, false, false, true]), (true, [false, false, false, false, false, false, false, false, false, false, false, false, false, true])] _ _ (Keeps W5 [(⟨Q, 0, none⟩, .int .i64 x.kind), (⟨Q, 1, none⟩, .int .i64 x.bits), (⟨Q, 2, none⟩, .int .i64 x.limit), (⟨Q, 3, none⟩, .int .i64 x.rate), (⟨Q, 4, none⟩, .int .i64 x.first), (⟨Q, 5, none⟩, .int .i64 x.second), (⟨w.heap.size, 1, none⟩, .slice (some ⟨g2, o2, none⟩) np L.c2), (⟨w.heap.size, 3, none⟩, .int .i64 pt)]) (by kernel_rfl) (List.take_append_drop 14 _).symm (by kernel_rfl) (by kernel_rfl) (by kernel_rfl) (by kernel_rfl) (Keeps.start hCS) (fun Y Q4 F4 hY hF => ?_)
                simp only [phased, List.flatMap_cons, List.flatMap_nil, List.take_succ_cons, List.take_zero, List.drop_succ_cons, List.drop_zero, sel_true, sel_false, sel_nil, List.map_cons, List.map_nil, List.cons_append, List.nil_append, List.append_nil]
                repeat
                  apply wpSeq_read (by first | rfl | (rw [hY]; rfl))
                  · intro w2 hS2
                    (try simp only [Keeps, Cells] at hS2)
                    (try simp only [HasC, Cells] at hS2)
                    go_simp
                    with_reducible rfl
                  simp only [Act.put, List.setIfInBounds_toArray, List.set_cons_zero, List.set_cons_succ]
                repeat
                  first
                    | (apply wpSeq_read (by first | rfl | (rw [hY]; rfl))
                       · intro w2 hS2
                         exact exec_loadM 83 (.tmp 44) (by rfl) g2 (o2 + k * 16) (by rfl) PQ (hrp w2 hS2.1) _ Tryz.underlying83 rfl (info_P.trans hi16)
                       simp only [Act.put, List.setIfInBounds_toArray, List.set_cons_zero, List.set_cons_succ])
                    | (apply wpSeq_read (by first | rfl | (rw [hY]; rfl))
                       · intro w2 hS2
                         (try simp only [Keeps, Cells] at hS2)
                         go_simp
                         with_reducible rfl
                       simp only [Act.put, List.setIfInBounds_toArray, List.set_cons_zero, List.set_cons_succ])
                apply wpSeq_call (by first | rfl | (rw [hY]; rfl))
                · go_simp
                  with_reducible exact ⟨rfl, rfl⟩
                refine (HO.out x _).mono ?_
                rintro e w6 ⟨rfl, hb6⟩
                have hk6 := (Keeps.start hCS).step hb6
                refine ⟨_, rfl, hk6, ?_⟩
                simp only [Act.put, List.setIfInBounds_toArray, List.set_cons_zero, List.set_cons_succ]
                rw [hof]
                repeat
                  apply wpSeq_read (by first | rfl | (rw [hY]; rfl))
                  · intro w2 hS2
                    (try simp only [Keeps, Cells] at hS2)
                    (try simp only [HasC, Cells] at hS2)
                    go_simp
                    with_reducible rfl
                  simp only [Act.put, List.setIfInBounds_toArray, List.set_cons_zero, List.set_cons_succ]
                apply wpSeq_call (by first | rfl | (rw [hY]; rfl))
                · go_simp
                  with_reducible exact ⟨rfl, rfl⟩
                refine (HX.out w6 hk6.1).mono ?_
                rintro e w7 ⟨rfl, hb7⟩
                have hk7 := hk6.step hb7
                refine ⟨_, rfl, hk7, ?_⟩
                simp only [Act.put, List.setIfInBounds_toArray, List.set_cons_zero, List.set_cons_succ]
                repeat
                  apply wpSeq_read (by first | rfl | (rw [hY]; rfl))
                  · intro w2 hS2
                    (try simp only [Keeps, Cells] at hS2)
                    (try simp only [HasC, Cells] at hS2)
                    go_simp
                    with_reducible rfl
                  simp only [Act.put, List.setIfInBounds_toArray, List.set_cons_zero, List.set_cons_succ]
                refine wpSeq_done (hF.out _ _ (fun K hK => ?_))
                clear hF hY
                refine OnlyK.mk (hK.out _ _ ?_)
                clear hK
                have B7 := below_trans B5 hk7.1
                have k07 := k05.step hk7.1
                cases q with
                | false =>
                  obtain rfl := HBad.out x Hx.out Hp.out Hq.out
                  go_wp2
                  go_returns
                  exact ⟨rfl, B7⟩
                | true =>
                  go_wp2
                  go_roundw
                  case rel =>
                    refine ⟨k + 1, by omega, by simp, Lib.hid (fun j c' p' hj h1 h2 => ?_), k07, B7⟩
                    rcases Nat.lt_succ_iff_lt_or_eq.1 hj with h | rfl
                    · exact hall.out j c' p' h h1 h2
                    · have e1 := Hx.out; rw [h1] at e1; cases e1
                      have e2 := Hp.out; rw [h2] at e2; cases e2
                      exact Hq.out
                  case measure => simp [intOf]; omega
              omega
            · obtain rfl : k = nc := by omega
              have hR0 : R = 0 := by
                rw [← HR2.out]
                refine if_pos (fun j c p h1 h2 => ?_)
                rw [Hpt.out]
                exact hall.out j c p (by have := (List.getElem?_eq_some_iff.1 h1).1; have := Hnc.out; omega) h1 h2
              subst hR0
              go_wp2
              go_returns
              exact ⟨rfl, hB⟩
      · rw [if_pos (.inr hnx)] at hR
        subst hR
        have e1 : ((np : Int) != (nc : Int)) = false := by simp [hnp]
        have e2 : ((nx : Int) != 16) = true := by simp; omega
        clear hnp hnx
        have c0 := k0.cell 0
        have c1 := k0.cell 1
        have c2 := k0.cell 2
        have c3 := k0.cell 3
        simp only [List.getElem?_cons_zero, List.getElem?_cons_succ] at c0 c1 c2 c3
        go_enter Tryz.func18, Tryz.ntmps18
        go_wp2_with (rw [hW0])
        refine HC0.out.mono ?_
        rintro e w1 ⟨rfl, hb1⟩
        have k1 := k0.step hb1
        have B1 := below_trans B0 hb1
        clear c0 c1 c2 c3 k0
        have k0 := k1
        have c0 := k0.cell 0
        have c1 := k0.cell 1
        have c2 := k0.cell 2
        have c3 := k0.cell 3
        simp only [List.getElem?_cons_zero, List.getElem?_cons_succ] at c0 c1 c2 c3
        go_wp2
        go_returns
        exact ⟨rfl, B1⟩
    · rw [if_pos (.inl hnp)] at hR
      subst hR
      have e1 : ((np : Int) != (nc : Int)) = true := by simp; omega
      clear hnp
      have c0 := k0.cell 0
      have c1 := k0.cell 1
      have c2 := k0.cell 2
      have c3 := k0.cell 3
      simp only [List.getElem?_cons_zero, List.getElem?_cons_succ] at c0 c1 c2 c3
      go_enter Tryz.func18, Tryz.ntmps18
      go_wp2_with (rw [hW0])
      refine HC0.out.mono ?_
      rintro e w1 ⟨rfl, hb1⟩
      have k1 := k0.step hb1
      have B1 := below_trans B0 hb1
      clear c0 c1 c2 c3 k0
      have k0 := k1
      have c0 := k0.cell 0
      have c1 := k0.cell 1
      have c2 := k0.cell 2
      have c3 := k0.cell 3
      simp only [List.getElem?_cons_zero, List.getElem?_cons_succ] at c0 c1 c2 c3
      go_wp2
      go_returns
      exact ⟨rfl, B1⟩
  · rw [if_pos hE0] at hR
    subst hR
    have e0 : (E != 0) = true := by simp [hE0]
    clear hE0
    have c0 := k0.cell 0
    have c1 := k0.cell 1
    have c2 := k0.cell 2
    have c3 := k0.cell 3
    simp only [List.getElem?_cons_zero, List.getElem?_cons_succ] at c0 c1 c2 c3
    go_enter Tryz.func18, Tryz.ntmps18
    go_wp2_with (rw [hW0])
    refine HC0.out.mono ?_
    rintro e w1 ⟨rfl, hb1⟩
    have B1 := below_trans B0 hb1
    go_wp2
    go_returns
    exact ⟨rfl, B1⟩
end Go.Proofs.YtieeogndnhighaaGreat
set_option linter.unusedSimpArgs false
set_option linter.unusedVariables false
set_option linter.unusedSectionVars false
namespace Go.Proofs.YtieeogndnhighaaGreat
open Go.RowKit
def zH : Value := .agg #[.int .i64 0, .int .i64 0, .int .i64 0, .int .i64 0, .int .i64 0, .int .i64 0]
set_option maxRecDepth 100000 in
theorem notHist_constant (v : Value) (w : World) : (Instr.typeAssert (.iface 115 v) 87 117 true).run Tryz.prog w = .ok (.tuple #[zH, .bool false]) w := by kernel_rfl
set_option maxRecDepth 100000 in
theorem notHist_direct (v : Value) (w : World) : (Instr.typeAssert (.iface 116 v) 87 117 true).run Tryz.prog w = .ok (.tuple #[zH, .bool false]) w := by kernel_rfl
set_option maxRecDepth 100000 in
theorem notHist_matched (v : Value) (w : World) : (Instr.typeAssert (.iface 118 v) 87 117 true).run Tryz.prog w = .ok (.tuple #[zH, .bool false]) w := by kernel_rfl
set_option maxRecDepth 100000 in
theorem notHist_average (v : Value) (w : World) : (Instr.typeAssert (.iface 119 v) 87 117 true).run Tryz.prog w = .ok (.tuple #[zH, .bool false]) w := by kernel_rfl
set_option maxRecDepth 100000 in
theorem notHist_mixed (v : Value) (w : World) : (Instr.typeAssert (.iface 120 v) 87 117 true).run Tryz.prog w = .ok (.tuple #[zH, .bool false]) w := by kernel_rfl
set_option maxRecDepth 100000 in
theorem notHist_refined (v : Value) (w : World) : (Instr.typeAssert (.iface 121 v) 87 117 true).run Tryz.prog w = .ok (.tuple #[zH, .bool false]) w := by kernel_rfl
set_option maxRecDepth 100000 in
set_option maxHeartbeats 2000000 in
theorem opened14_plain (N : S14.N) (L : NLay) (w : World) (hN : NIs N L w) (hl : N.comps.length ≤ 16) (hk6 : ∀ c ∈ N.comps, 0 ≤ c.kind ∧ c.kind ≤ 6 ∧ c.kind ≠ 2) :
    Calls Tryz.prog 44 #[NV N L] w fun e w' => e = .returned (NV N L) ∧ Below w.heap.size w w' := by
  have HN := Lib.hid hN
  have HO := Lib.hid fun (x : S14.C) W => (show Calls Tryz.prog 43 #[.agg #[.int .i64 x.kind, .int .i64 x.bits, .int .i64 x.limit, .int .i64 x.rate, .int .i64 x.first, .int .i64 x.second]] W _ from of14_any x W)
  have Hk6 := Lib.hid hk6
  unfold NV NVals
  obtain ⟨nc, hnc⟩ : ∃ n, N.comps.length = n := ⟨_, rfl⟩
  obtain ⟨np, hnp⟩ : ∃ n, N.parts.length = n := ⟨_, rfl⟩
  obtain ⟨nx, hnx⟩ : ∃ n, N.ctxs.length = n := ⟨_, rfl⟩
  obtain ⟨pt, hpt⟩ : ∃ n, N.part = n := ⟨_, rfl⟩
  rw [hnc] at hl
  rw [hnc, hnp, hnx, hpt]
  have Hnc := Lib.hid hnc
  clear hnc hnp hnx hpt hN hk6
  obtain ⟨W1, hW1⟩ : ∃ W1, (w.alloc (.cells #[.slice L.a1 nc L.c1, .slice L.a2 np L.c2, .slice L.a3 nx L.c3, .int .i64 pt] 26)).alloc (.cells zN 26) = W1 := ⟨_, rfl⟩
  have k1 : Blk W1 w.heap.size [.slice L.a1 nc L.c1, .slice L.a2 np L.c2, .slice L.a3 nx L.c3, .int .i64 pt] 26 := by rw [← hW1]; exact (Blk.new w _ _).alloc _
  have k2 : Blk W1 (w.heap.size + 1) [.slice none 0 0, .slice none 0 0, .slice none 0 0, .int .i64 0] 26 := by
    rw [← hW1]
    have h := Blk.new (w.alloc (.cells #[.slice L.a1 nc L.c1, .slice L.a2 np L.c2, .slice L.a3 nx L.c3, .int .i64 pt] 26)) [.slice none 0 0, .slice none 0 0, .slice none 0 0, .int .i64 0] 26
    rwa [World.size_alloc] at h
  have B1 : Below w.heap.size w W1 := by rw [← hW1]; exact ((Below.refl _ _).alloc (Nat.le_refl _) _).alloc (by simp) _
  unfold zN at hW1
  have c0 := k1.cell 0
  simp only [List.getElem?_cons_zero] at c0
  go_enter Tryz.func44, Tryz.ntmps44
  go_wp2_with (rw [hW1])
  clear c0
  go_loopw [9] (fun i wr => ∃ (k : Nat), k ≤ nc ∧ i = .int .i64 (k : Int) ∧ Blk wr w.heap.size [.slice L.a1 nc L.c1, .slice L.a2 np L.c2, .slice L.a3 nx L.c3, .int .i64 pt] 26 ∧
    Blk wr (w.heap.size + 1) [.slice none 0 0, .slice none 0 0, .slice none 0 0, .int .i64 0] 26 ∧ Below w.heap.size w wr) (fun i _ => nc - (intOf i).toNat)
  case atStart => exact ⟨0, by omega, rfl, k1, k2, B1⟩
  case round =>
    clear k1 k2 B1 hW1
    obtain ⟨k, hk, rfl, k1, k2, hB⟩ := hrel
    by_cases hlt : k < nc
    · have hkz : (k : Int) < (nc : Int) := by omega
      obtain ⟨x, hx⟩ : ∃ x, N.comps[k]? = some x := ⟨_, List.getElem?_eq_getElem (by have := Hnc.out; omega)⟩
      obtain ⟨g, o, hga, x0, x1, x2, x3, x4, x5⟩ := (HN.out.step hB).comp_at hx
      have hkd := Hk6.out x (List.mem_of_getElem? hx)
      rw [hga] at k1 ⊢
      have hb5 : Below wr.heap.size wr (wr.alloc (.cells #[.int .i64 x.kind, .int .i64 x.bits, .int .i64 x.limit, .int .i64 x.rate, .int .i64 x.first, .int .i64 x.second] 54)) := (Below.refl _ _).alloc (Nat.le_refl _) _
      go_wp2_with fail
      refine (HO.out x _).mono ?_
      rintro e w2 ⟨rfl, hb2⟩
      have hb25 := below_trans hb5 hb2
      have B2 := below_trans hB hb25
      have k12 := k1.step hb25
      have k22 := k2.step hb25
      clear x0 x1 x2 x3 x4 x5 hx k1 k2 hb5 hb2
      by_cases k0 : x.kind = 0
      · have hof : OfV x = .iface 115 (.agg #[.int .i64 x.kind, .int .i64 x.bits, .int .i64 x.limit, .int .i64 x.rate, .int .i64 x.first, .int .i64 x.second]) := by
          unfold OfV CV Cells14; simp only [k0]; rfl
        rw [hof]
        have hta := notHist_constant (.agg #[.int .i64 x.kind, .int .i64 x.bits, .int .i64 x.limit, .int .i64 x.rate, .int .i64 x.first, .int .i64 x.second])
        clear k0 hof hkd
        go_wp2
        go_roundw
        case rel => exact ⟨k + 1, by omega, by simp, k12, k22, B2⟩
        case measure => simp [intOf]; omega
      by_cases k1 : x.kind = 1
      · have hof : OfV x = .iface 116 (.agg #[.int .i64 x.kind, .int .i64 x.bits, .int .i64 x.limit, .int .i64 x.rate, .int .i64 x.first, .int .i64 x.second]) := by
          unfold OfV CV Cells14; simp only [k1]; rfl
        rw [hof]
        have hta := notHist_direct (.agg #[.int .i64 x.kind, .int .i64 x.bits, .int .i64 x.limit, .int .i64 x.rate, .int .i64 x.first, .int .i64 x.second])
        clear k1 hof hkd
        go_wp2
        go_roundw
        case rel => exact ⟨k + 1, by omega, by simp, k12, k22, B2⟩
        case measure => simp [intOf]; omega
      by_cases k3 : x.kind = 3
      · have hof : OfV x = .iface 118 (.agg #[.int .i64 x.kind, .int .i64 x.bits, .int .i64 x.limit, .int .i64 x.rate, .int .i64 x.first, .int .i64 x.second]) := by
          unfold OfV CV Cells14; simp only [k3]; rfl
        rw [hof]
        have hta := notHist_matched (.agg #[.int .i64 x.kind, .int .i64 x.bits, .int .i64 x.limit, .int .i64 x.rate, .int .i64 x.first, .int .i64 x.second])
        clear k3 hof hkd
        go_wp2
        go_roundw
        case rel => exact ⟨k + 1, by omega, by simp, k12, k22, B2⟩
        case measure => simp [intOf]; omega
      by_cases k4 : x.kind = 4
      · have hof : OfV x = .iface 119 (.agg #[.int .i64 x.kind, .int .i64 x.bits, .int .i64 x.limit, .int .i64 x.rate, .int .i64 x.first, .int .i64 x.second]) := by
          unfold OfV CV Cells14; simp only [k4]; rfl
        rw [hof]
        have hta := notHist_average (.agg #[.int .i64 x.kind, .int .i64 x.bits, .int .i64 x.limit, .int .i64 x.rate, .int .i64 x.first, .int .i64 x.second])
        clear k4 hof hkd
        go_wp2
        go_roundw
        case rel => exact ⟨k + 1, by omega, by simp, k12, k22, B2⟩
        case measure => simp [intOf]; omega
      by_cases k5 : x.kind = 5
      · have hof : OfV x = .iface 120 (.agg #[.int .i64 x.kind, .int .i64 x.bits, .int .i64 x.limit, .int .i64 x.rate, .int .i64 x.first, .int .i64 x.second]) := by
          unfold OfV CV Cells14; simp only [k5]; rfl
        rw [hof]
        have hta := notHist_mixed (.agg #[.int .i64 x.kind, .int .i64 x.bits, .int .i64 x.limit, .int .i64 x.rate, .int .i64 x.first, .int .i64 x.second])
        clear k5 hof hkd
        go_wp2
        go_roundw
        case rel => exact ⟨k + 1, by omega, by simp, k12, k22, B2⟩
        case measure => simp [intOf]; omega
      by_cases k6 : x.kind = 6
      · have hof : OfV x = .iface 121 (.agg #[.int .i64 x.kind, .int .i64 x.bits, .int .i64 x.limit, .int .i64 x.rate, .int .i64 x.first, .int .i64 x.second]) := by
          unfold OfV CV Cells14; simp only [k6]; rfl
        rw [hof]
        have hta := notHist_refined (.agg #[.int .i64 x.kind, .int .i64 x.bits, .int .i64 x.limit, .int .i64 x.rate, .int .i64 x.first, .int .i64 x.second])
        clear k6 hof hkd
        go_wp2
        go_roundw
        case rel => exact ⟨k + 1, by omega, by simp, k12, k22, B2⟩
        case measure => simp [intOf]; omega
      omega
    · obtain rfl : k = nc := by omega
      go_wp2_with (first
        | (refine wpList_loadB 26 (.tmp 1) (by rfl) (by rfl) w.heap.size (by rfl) [.slice L.a1 k L.c1, .slice L.a2 np L.c2, .slice L.a3 nx L.c3, .int .i64 pt] 26 k1 _ Tryz.underlying26 rfl info_N ?_)
        | (refine wpList_storeB 26 (.tmp 2) (.tmp 43) (by rfl) (by rfl) (w.heap.size + 1) (by rfl) [.slice L.a1 k L.c1, .slice L.a2 np L.c2, .slice L.a3 nx L.c3, .int .i64 pt] (by rfl) _ 26 k2 info_N rfl (by simp [Value.oneCell']) ?_
           intro wL EL gL sL))
      have hL := run_loadVar_mid wL _ 0 _ _ _ EL.cells Tryz.underlying26 rfl info_N
      refine bodyPost_ret (v := .agg #[.slice L.a1 k L.c1, .slice L.a2 np L.c2, .slice L.a3 nx L.c3, .int .i64 pt]) ?_ rfl ?_
      · exact results_cell (show Tryz.f44.results = #[.cell 2 26] from rfl) (p := ⟨w.heap.size + 1, 0, none⟩) rfl hL
      · exact ⟨rfl, hB.trans (rowBelow gL (by omega) hB.size)⟩
end Go.Proofs.YtieeogndnhighaaGreat
