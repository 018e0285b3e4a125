/- A part of the proof that ends in L14p (W14p, L14p). No condition. -/
import Derived.Below
import Derived.BigQuiet
import Derived.Deep.Draws
import Derived.Deep.Light
import Derived.Deep.MidRow
import Derived.Deep.QuietTactic
import Derived.Deep.SlicePairs
import Derived.Deep.Slices
import Derived.Great.BuildSlice
import Derived.Handy
import Derived.Laws.AppendOwn
import Derived.Laws.AppendOwnNone
import Derived.Laws.CopyOwn
import Derived.Laws.IdiomArrays
import Derived.Laws.MakeOwn
import Derived.Laws.OwnMore
import Derived.Laws.Tables
import Derived.Lib.Hide
import Derived.Lib.MinMax
import Derived.Lib.SliceRun
import Derived.Lib.SmallJoins
import Derived.LoadGo2
import Derived.LoopIn
import Derived.LoopNIn
import Derived.Maps.AppendAt
import Derived.OpenShut
import Derived.Orders
import Derived.OrdersHeld
import Derived.OwnWalkIn
import Derived.ProofKit
import Derived.RangeFuncBound
import Derived.RangeFuncCalls
import Derived.RangeFuncLeaves
import Derived.RangeFuncNested
import Derived.RangeFuncWrites
import Derived.Shelf.Abstract
import Derived.Shelf.RegionOpen
import Derived.Sort.BigQuietIn
import Derived.Sort.QuietIn
import Derived.StillTail
import Derived.StillTailTactics
import Derived.Tactics
import Derived.TacticsInMore
import Derived.Test.YtieeogndnhighaaGreatRows
import Derived.Test.YtieeogndnhighaaGreatShelf
import Derived.WalkKit
import Derived.WalkLawsBesides
import Derived.WalkSpells
import Derived.Test.YtieeogndnhighaaGreatZL14pbr
import Derived.Test.YtieeogndnhighaaGreatZL14pbt
set_option linter.unusedSectionVars false
set_option linter.unusedSimpArgs false
set_option linter.unusedVariables false
set_option maxRecDepth 100000
set_option maxHeartbeats 2000000
namespace Go.Proofs.YtieeogndnhighaaGreat
open Go.RowKit
theorem outA_in14(N:S14.N)(L:NLay)(w:World)(hN:NIs N L w)(h0:S14.checkNet N=0):∀k,k≤N.comps.length→∀x∈S14.outs (S14.outA N) k,-3071≤x∧x≤3071
 | 0,_,x,hx=>by cases hx
 | k+1,hk,x,hx=>by
   have ih:=outA_in14 N L w hN h0 k (by omega);rw[S14.outs]at hx;rcases List.mem_append.1 hx with h|h
   ·exact ih x h
   ·rw[List.mem_singleton.1 h];have hb:Below w.heap.size w (w.alloc (.cells (zaK (S14.outs (S14.outA N) k)).toArray 3)):=(zI _ _).alloc (zG _) _;exact(out_all N L w hN h0 k _ (zE (by omega)) (S14.outs (S14.outA N) k) _ _ hb (Rd.new w _ _) (S14.outs_length _ _) ih).2
theorem small_nis14{N:S14.N}{L:NLay}{w:World}(hN:NRaw N L w)(hs:S14.small N):NIs N L w∧N.comps.length≤40∧∀p∈N.parts,p.ctrs.length≤9223372036854775807:=by
 refine⟨hN.nis (fun p hp=> ?_),(S14.fewC_iff.1 hs.1).1,fun p hp=> ?_⟩
 all_goals
  have h:=hs.2.2.2 p hp;unfold S14.big at h;simp only[not_or]at h;omega
theorem zfY(N:S14.N)(L:NLay)(w:World)(hN:NRaw N L w) :
 Calls Tryz.prog 4 #[NV N L] w fun e w'=>e = .returned (.bool true)∧Below w.heap.size w w':=by
 have HA:=zB fun W=>awake14_any W;have HVl:=zB (show some 4=some (zaH N L).length from rfl);by_cases hs:S14.small N
 ·have HF:=zB fun(W:World) (hW:Below w.heap.size w W)=>few14_any N L W (hN.step hW) true (by simp[hs]);obtain⟨hNI,hl40,hlc⟩:=small_nis14 hN hs;by_cases h0:S14.checkNet N=0
  ·have hin:=outA_in14 N L w hNI h0;have H1:=zB fun(W:World) (hW:Below w.heap.size w W)=>zcJ N L (S14.outA N) W (hNI.step hW) (zgJ N L W (hNI.step hW)) h0 (out_all N L W (hNI.step hW) h0);have H2:=zB fun(W:World) (hW:Below w.heap.size w W)=>zkG N L W (hNI.step hW) hlc h0 (S14.outA N) rfl hin;have H3:=zB fun(W:World) (hW:Below w.heap.size w W)=>zbW N L (S14.outA N) W (hNI.step hW) (zgJ N L W (hNI.step hW)) h0 (out_all N L W (hNI.step hW) h0);have H4:=zB fun(W:World) (hW:Below w.heap.size w W)=>zkF N L W (hNI.step hW) hlc h0 (S14.outA N) rfl hin;have hlen:=S14.outs_length (S14.outA N) N.comps.length;obtain⟨X,hX⟩:∃X,S14.outs (S14.outA N) N.comps.length=X:=⟨_,rfl⟩;rw[hX]at H1 H2 H3 H4 hlen;rw[←hlen]at H1 H2;obtain⟨Z,hZ⟩:∃q,S06.squash (X.getD (N.comps.length-1) 0)=q:=⟨_,rfl⟩;rw[hZ]at H3 H4;have HE:=zB fun(a1 a2:Option Addr) (c1 c2:Nat) (W:World) hr1 hr2=>zfA X a1 a2 c1 c2 W (by omega) hr1 hr2;unfold NV at *;obtain⟨VN,hVN⟩:∃v,zaH N L=v:=⟨_,rfl⟩;rw[hVN]at HVl HF H1 H2 H3 H4⊢;obtain⟨W1,hW1⟩:∃W1,w.alloc (.cells VN.toArray 26)=W1:=⟨_,rfl⟩;have k1:Blk W1 w.heap.size VN 26:=by rw[←hW1];exact Blk.new w _ _
   have B1:Below w.heap.size w W1:=by rw[←hW1];exact(zI _ _).alloc (zG _) _
   have HX:Hid (X=X):=zB rfl;clear hs hN hNI hl40 hlc h0 hin hlen hX hZ hVN HX;go_enter Tryz.func4,Tryz.ntmps4;go_wp2_with (first
    | (rw[hW1])
    | (refine zS 26 (.tmp 1) (by rfl) (by rfl) w.heap.size (by rfl) VN 26 k1 _ Tryz.underlying26 rfl (info_N.trans HVl.out) ?_))
   refine(HF.out _ B1).mono ?_;rintro e w2 ⟨rfl,hb2⟩;have B2:=zA B1 hb2;have k2:=k1.step hb2;clear k1;go_wp2_with (first
    | (refine zS 26 (.tmp 1) (by rfl) (by rfl) w.heap.size (by rfl) VN 26 k2 _ Tryz.underlying26 rfl (info_N.trans HVl.out) ?_))
   refine(H1.out _ B2).mono ?_;rintro e w3 ⟨a1,c1,rfl,hr1,_,_,hb3⟩;have B3:=zA B2 hb3;have k3:=k2.step hb3;have Hr1:=zB hr1;clear k2 hr1;go_wp2_with (first
    | (refine zS 26 (.tmp 1) (by rfl) (by rfl) w.heap.size (by rfl) VN 26 k3 _ Tryz.underlying26 rfl (info_N.trans HVl.out) ?_))
   refine(H2.out _ B3).mono ?_;rintro e w4 ⟨a2,c2,rfl,hr2,_,hb4⟩;have B4:=zA B3 hb4;have k4:=k3.step hb4;have Hr2:=zB hr2;have Hr14:=zB (Hr1.out.step hb4);clear k3 hr2 Hr1;go_wp2_with (first
    | (refine zS 26 (.tmp 1) (by rfl) (by rfl) w.heap.size (by rfl) VN 26 k4 _ Tryz.underlying26 rfl (info_N.trans HVl.out) ?_))
   refine(H3.out _ B4).mono ?_;rintro e w5 ⟨rfl,hb5⟩;have B5:=zA B4 hb5;have k5:=k4.step hb5;clear k4;go_wp2_with (first
    | (refine zS 26 (.tmp 1) (by rfl) (by rfl) w.heap.size (by rfl) VN 26 k5 _ Tryz.underlying26 rfl (info_N.trans HVl.out) ?_))
   refine(H4.out _ B5).mono ?_;rintro e w6 ⟨rfl,hb6⟩;have B6:=zA B5 hb6;have hb46:=zA hb5 hb6;have hzz:(Z==Z)=true:=by simp
   go_wp2_with fail;refine(HE.out a1 a2 c1 c2 w6 (Hr14.out.step hb46) (Hr2.out.step hb46)).mono ?_;rintro e w7 ⟨rfl,hb7⟩;have B7:=zA B6 hb7;go_wp2_with fail;refine(HA.out _).mono ?_;rintro e w8 ⟨rfl,hb8⟩;go_wp2;go_returns;exact⟨rfl,zA B7 hb8⟩
  ·have H1:=zB fun(W:World) (hW:Below w.heap.size w W)=>zfQ N L W (hNI.step hW) (by omega) (zgJ N L W (hNI.step hW)) h0;have H2:=zB fun(W:World) (hW:Below w.heap.size w W)=>zmA N L W (hNI.step hW) (by omega) hlc h0;have H3:=zB fun(W:World) (hW:Below w.heap.size w W)=>znN N L W (hNI.step hW) (by omega) (zgJ N L W (hNI.step hW)) h0;have H4:=zB fun(W:World) (hW:Below w.heap.size w W)=>zlZ N L W (hNI.step hW) (by omega) hlc h0;obtain⟨Z,hZ⟩:∃X,S14.checkNet N=X:=⟨_,rfl⟩;rw[hZ]at H1 H2 H3 H4;have HE:=zB fun(W:World)=>(show Calls Tryz.prog 24 #[.slice none 0 0,.slice none 0 0] W _ from zfA [] none none 0 0 W (by decide) (Rd.nil _ _) (Rd.nil _ _));unfold NV at *;obtain⟨VN,hVN⟩:∃v,zaH N L=v:=⟨_,rfl⟩;rw[hVN]at HVl HF H1 H2 H3 H4⊢;obtain⟨W1,hW1⟩:∃W1,w.alloc (.cells VN.toArray 26)=W1:=⟨_,rfl⟩;have k1:Blk W1 w.heap.size VN 26:=by rw[←hW1];exact Blk.new w _ _
   have B1:Below w.heap.size w W1:=by rw[←hW1];exact(zI _ _).alloc (zG _) _
   clear hs hN hNI hl40 hlc h0 hZ hVN;go_enter Tryz.func4,Tryz.ntmps4;go_wp2_with (first
    | (rw[hW1])
    | (refine zS 26 (.tmp 1) (by rfl) (by rfl) w.heap.size (by rfl) VN 26 k1 _ Tryz.underlying26 rfl (info_N.trans HVl.out) ?_))
   refine(HF.out _ B1).mono ?_;rintro e w2 ⟨rfl,hb2⟩;have B2:=zA B1 hb2;have k2:=k1.step hb2;clear k1;go_wp2_with (first
    | (refine zS 26 (.tmp 1) (by rfl) (by rfl) w.heap.size (by rfl) VN 26 k2 _ Tryz.underlying26 rfl (info_N.trans HVl.out) ?_))
   refine(H1.out _ B2).mono ?_;rintro e w3 ⟨rfl,hb3⟩;have B3:=zA B2 hb3;have k3:=k2.step hb3;clear k2;go_wp2_with (first
    | (refine zS 26 (.tmp 1) (by rfl) (by rfl) w.heap.size (by rfl) VN 26 k3 _ Tryz.underlying26 rfl (info_N.trans HVl.out) ?_))
   refine(H2.out _ B3).mono ?_;rintro e w4 ⟨rfl,hb4⟩;have B4:=zA B3 hb4;have k4:=k3.step hb4;clear k3;go_wp2_with (first
    | (refine zS 26 (.tmp 1) (by rfl) (by rfl) w.heap.size (by rfl) VN 26 k4 _ Tryz.underlying26 rfl (info_N.trans HVl.out) ?_))
   refine(H3.out _ B4).mono ?_;rintro e w5 ⟨rfl,hb5⟩;have B5:=zA B4 hb5;have k5:=k4.step hb5;clear k4;go_wp2_with (first
    | (refine zS 26 (.tmp 1) (by rfl) (by rfl) w.heap.size (by rfl) VN 26 k5 _ Tryz.underlying26 rfl (info_N.trans HVl.out) ?_))
   refine(H4.out _ B5).mono ?_;rintro e w6 ⟨rfl,hb6⟩;have B6:=zA B5 hb6;have hzz:(Z==Z)=true:=by simp
   go_wp2_with fail;refine(HE.out w6).mono ?_;rintro e w7 ⟨rfl,hb7⟩;have B7:=zA B6 hb7;go_wp2_with fail;refine(HA.out _).mono ?_;rintro e w8 ⟨rfl,hb8⟩;go_wp2;go_returns;exact⟨rfl,zA B7 hb8⟩
 ·have HF:=zB fun(W:World) (hW:Below w.heap.size w W)=>few14_any N L W (hN.step hW) false (by simp[hs]);unfold NV at *;obtain⟨VN,hVN⟩:∃v,zaH N L=v:=⟨_,rfl⟩;rw[hVN]at HVl HF⊢;obtain⟨W1,hW1⟩:∃W1,w.alloc (.cells VN.toArray 26)=W1:=⟨_,rfl⟩;have k1:Blk W1 w.heap.size VN 26:=by rw[←hW1];exact Blk.new w _ _
  have B1:Below w.heap.size w W1:=by rw[←hW1];exact(zI _ _).alloc (zG _) _
  clear hs hN hVN;go_enter Tryz.func4,Tryz.ntmps4;go_wp2_with (first
   | (rw[hW1])
   | (refine zS 26 (.tmp 1) (by rfl) (by rfl) w.heap.size (by rfl) VN 26 k1 _ Tryz.underlying26 rfl (info_N.trans HVl.out) ?_))
  refine(HF.out _ B1).mono ?_;rintro e w2 ⟨rfl,hb2⟩;have B2:=zA B1 hb2;go_wp2_with fail;refine(HA.out _).mono ?_;rintro e w3 ⟨rfl,hb3⟩;go_wp2;go_returns;exact⟨rfl,zA B2 hb3⟩
end Go.Proofs.YtieeogndnhighaaGreat
namespace Go.Proofs.YtieeogndnhighaaGreat
open Go.ChangeShapes Go.WideShapes Go.ChangeAt Go.RowKit
theorem zeR(os:Os)(started:os.Started)(H:Type)(enc:TypeId×Value→H) :
 ReturnsInHanded {} Tryz.checked os 4 .any (Rows.networkPredictsSpec.pre6 enc Tryz.prog Tryz.f4 Rows.networkPredictsRow.domain false) (Rows.networkPredictsSpec.post enc Tryz.prog Tryz.f4 false true false false):=by
 refine returnsInHanded_of_change (C:=Tryz.checked) lawOwn started (by kernel_rfl) Tryz.func4
  (ChangeSpec.witness6 (enc:=enc) (C:=Tryz.checked) false ⟨#[],#[.agg #[.slice none 0 0,.slice none 0 0,.slice none 0 0,.int .i64 0]],[]⟩ 8 (by kernel_rfl) (by kernel_rfl) (by kernel_rfl) (by kernel_rfl)) ?_
 intro W base args ds gs before hval0 hW hcnd _;have hval:∀(j:Nat) t v,Tryz.f4.params[j]? = some t→args[j]? = some v→Value.okWide Tryz.prog W .any base t v:=hval0;have hW':=hW;obtain⟨p,q,hA0,hV,rfl,hfz,hnd⟩:=hW;have hA:DataW.TrodAll enc Tryz.prog W 0 (fun _=>true) true Tryz.f4.params.toList args.toList ds p:=hA0;rw[Tryz.params4]at hA hval;obtain⟨v0,vs0,d0,ds0,p0,q0,hargs,rfl,rfl,h0,r0⟩:=trodAll_cons hA;obtain⟨rfl,rfl,rfl⟩:=trodAll_nil r0;obtain rfl:args = #[v0]:=by cases args;simp_all
 obtain⟨rfl,rfl⟩:=trodVars_none hV;have k0:=h0;have lt0:∀x∈p0,x.block<W.heap.size:=by obtain⟨m,hm⟩:=k0;exact DataW.trod_lt m _ _ _ hm
 have ok0:=hval 0 26 v0 rfl rfl;clear hA0 hval0;obtain⟨N,L,rfl,hN⟩:=open_net ok0 h0;refine(zfY N L W hN).mono fun e W' ⟨he,bel⟩=> ?_;subst he;exact⟨_,rfl,_,_,_,[],_,[],hW',trodAll_mk1 (shut_bool Tryz.underlying4 _),(trodAll_cons_mk (Below.trod lawLaid (by kernel_rfl) (of_decide_eq_true (by kernel_rfl)) k0 bel lt0) trodAll_mk0),rfl,bel.frame _,fun h=>by cases h⟩
theorem NetworkPredicts_holds:Rows.NetworkPredictsSaid:=
 OpenClaim.holds_of_wide 4 Tryz.f4 rfl rfl rfl rfl rfl rfl rfl ⟨rfl,rfl,rfl,rfl,rfl⟩ rfl rfl rfl rfl rfl (by kernel_rfl) Tryz.func4 (by kernel_rfl)
  (of_decide_eq_true (by kernel_rfl)) (by unfold Func.isWrapper;rw[zK (of_decide_eq_false (by kernel_rfl))];exact⟨rfl,rfl⟩)
  (fun os started H enc _=>zeR os started H enc)
end Go.Proofs.YtieeogndnhighaaGreat
