/- A part of the proof that ends in L14c (L14c). No condition. -/
import Derived.Below
import Derived.BigQuiet
import Derived.Deep.Draws
import Derived.Deep.Light
import Derived.Deep.MidRow
import Derived.Deep.QuietTactic
import Derived.Deep.RegionHeld3
import Derived.Deep.Slices
import Derived.Great.BuildSlice
import Derived.Handy
import Derived.Laws.AppendOwn
import Derived.Laws.AppendOwnNone
import Derived.Laws.CopyOwn
import Derived.Laws.IdiomArrays
import Derived.Laws.MakeOwn
import Derived.Laws.OwnMore
import Derived.Laws.Tables
import Derived.Lib.Hide
import Derived.Lib.MinMax
import Derived.Lib.SmallJoins
import Derived.LoadGo2
import Derived.LoopIn
import Derived.LoopNIn
import Derived.Maps.AppendAt
import Derived.OpenShut
import Derived.Orders
import Derived.OrdersHeld
import Derived.OwnWalkIn
import Derived.ProofKit
import Derived.RangeFuncBound
import Derived.RangeFuncCalls
import Derived.RangeFuncLeaves
import Derived.RangeFuncNested
import Derived.RangeFuncWrites
import Derived.Shelf.Abstract
import Derived.Shelf.RegionOpen
import Derived.Sort.BigQuietIn
import Derived.Sort.QuietIn
import Derived.StillTail
import Derived.StillTailTactics
import Derived.Tactics
import Derived.TacticsInMore
import Derived.Test.YtieeogndnhighaaGreatRows
import Derived.Test.YtieeogndnhighaaGreatShelf
import Derived.WalkKit
import Derived.WalkLawsBesides
import Derived.WalkSpells
import Derived.Test.YtieeogndnhighaaGreatZL14cbb
import Derived.Test.YtieeogndnhighaaGreatZL14cbj
set_option linter.unusedSimpArgs false
set_option linter.unusedVariables false
set_option linter.unusedSectionVars false
namespace Go.Proofs.YtieeogndnhighaaGreat
open Go.ChangeShapes Go.WideShapes Go.ChangeAt Go.RowKit
theorem nat_of_u16 {x : Int} (h : (Lit.int .u16 x).wf = true) : ∃ n : Nat, x = n ∧ n < 65536 := by
  have b := bounds_u16 h
  obtain ⟨n, rfl⟩ := Int.eq_ofNat_of_zero_le (show 0 ≤ x by omega)
  exact ⟨n, rfl, by omega⟩
set_option maxRecDepth 100000 in
theorem lifted_NetworkConstants (os : Os) (started : os.Started) (H : Type) (enc : TypeId × Value → H) :
    ReturnsInHanded {} Tryz.checked os 6 .any (Rows.networkConstantsSpec.pre6 enc Tryz.prog Tryz.f6 Rows.networkConstantsRow.domain false) (Rows.networkConstantsSpec.post enc Tryz.prog Tryz.f6 false true false false) := by
  refine returnsInHanded_of_change (C := Tryz.checked) lawOwn started (by kernel_rfl) Tryz.func6
    (ChangeSpec.witness6 (enc := enc) (C := Tryz.checked) false ⟨#[], #[.int .u16 0, .int .u16 0, .int .u16 0], []⟩ 8 (by kernel_rfl) (by kernel_rfl) (by kernel_rfl) (by kernel_rfl)) ?_
  intro W base args ds gs before hval0 hW hcnd _
  have hval : ∀ (j : Nat) t v, Tryz.f6.params[j]? = some t → args[j]? = some v → Value.okWide Tryz.prog W .any base t v := hval0
  have hW' := hW
  obtain ⟨p, q, hA0, hV, rfl, hfz, hnd⟩ := hW
  have hA : DataW.TrodAll enc Tryz.prog W 0 (fun _ => true) true Tryz.f6.params.toList args.toList ds p := hA0
  rw [Tryz.params6] at hA hval
  obtain ⟨v0, vs0, d0, ds0, p0, q0, hargs, rfl, rfl, h0, r0⟩ := trodAll_cons hA
  obtain ⟨v1, vs1, d1, ds1, p1, q1, rfl, rfl, rfl, h1, r1⟩ := trodAll_cons r0
  obtain ⟨v2, vs2, d2, ds2, p2, q2, rfl, rfl, rfl, h2, r2⟩ := trodAll_cons r1
  obtain ⟨rfl, rfl, rfl⟩ := trodAll_nil r2
  obtain rfl : args = #[v0, v1, v2] := by cases args; simp_all
  obtain ⟨rfl, rfl⟩ := trodVars_none hV
  have k0 := h0
  have lt0 : ∀ x ∈ p0, x.block < W.heap.size := by obtain ⟨m, hm⟩ := k0; exact DataW.trod_lt m _ _ _ hm
  have ok0 := hval 0 52 v0 rfl rfl
  have k1 := h1
  have lt1 : ∀ x ∈ p1, x.block < W.heap.size := by obtain ⟨m, hm⟩ := k1; exact DataW.trod_lt m _ _ _ hm
  have ok1 := hval 1 52 v1 rfl rfl
  have k2 := h2
  have lt2 : ∀ x ∈ p2, x.block < W.heap.size := by obtain ⟨m, hm⟩ := k2; exact DataW.trod_lt m _ _ _ hm
  have ok2 := hval 2 52 v2 rfl rfl
  clear hA0 hval0
  obtain ⟨a0, rfl, rfl, rfl, w0⟩ := open_int Tryz.underlying52 ok0 h0
  obtain ⟨a, rfl, ha⟩ := nat_of_u16 w0
  obtain ⟨a1, rfl, rfl, rfl, w1⟩ := open_int Tryz.underlying52 ok1 h1
  obtain ⟨b, rfl, hb⟩ := nat_of_u16 w1
  obtain ⟨a2, rfl, rfl, rfl, w2⟩ := open_int Tryz.underlying52 ok2 h2
  obtain ⟨q, rfl, hq⟩ := nat_of_u16 w2
  refine (networkConstants_any a b q W ha hb hq).mono fun e W' ⟨he, bel⟩ => ?_
  subst he
  exact ⟨_, rfl, _, _, _, [], _, [], hW', trodAll_mk1 (shut_bool Tryz.underlying4 _), (trodAll_cons_mk (Below.trod lawLaid (by kernel_rfl) (of_decide_eq_true (by kernel_rfl)) k0 bel lt0) (trodAll_cons_mk (Below.trod lawLaid (by kernel_rfl) (of_decide_eq_true (by kernel_rfl)) k1 bel lt1) (trodAll_cons_mk (Below.trod lawLaid (by kernel_rfl) (of_decide_eq_true (by kernel_rfl)) k2 bel lt2) trodAll_mk0))), rfl, bel.frame _, fun h => by cases h⟩
/-- The statement. -/
theorem NetworkConstants_holds : Rows.NetworkConstantsSaid :=
  OpenClaim.holds_of_wide 6 Tryz.f6 rfl rfl rfl rfl rfl rfl rfl ⟨rfl, rfl, rfl, rfl, rfl⟩ rfl rfl rfl rfl rfl (by kernel_rfl) Tryz.func6 (by kernel_rfl)
    (of_decide_eq_true (by kernel_rfl)) (by unfold Func.isWrapper; rw [if_neg (of_decide_eq_false (by kernel_rfl))]; exact ⟨rfl, rfl⟩)
    (fun os started H enc _ => lifted_NetworkConstants os started H enc)
end Go.Proofs.YtieeogndnhighaaGreat
