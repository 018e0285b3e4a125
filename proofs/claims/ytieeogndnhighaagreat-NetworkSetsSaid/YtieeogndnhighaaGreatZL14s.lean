/- A part of the proof of L14s. No condition. -/
import Derived.Test.YtieeogndnhighaaGreatZL14sca
import Derived.Test.YtieeogndnhighaaGreatZL14scb
set_option linter.all false
set_option maxRecDepth 100000
set_option maxHeartbeats 4000000
namespace Go.Proofs.YtieeogndnhighaaGreat
open Go.RowKit
theorem small_good14{N:S14.N}{L:NLay}{w:World}(hN:NIs N L w)(hs:S14.small N)(h0:S14.checkNet N=0):GoodN N 200:=by
 obtain⟨h1,h2,h3,h4,h5,h6⟩:=S14.checkNet_zero h0;refine⟨h1,h2,h3,⟨h4,h5⟩,fun k c p hc hp=> ?_⟩;obtain⟨y,hy⟩:∃y,L.ys[k]? = some y:=⟨_,zG (by rw[hN.ly];exact(List.getElem?_eq_some_iff.1 hp).1)⟩;have hP:=hN.ps k p y hp hy;have hb:=hs.2.2.2 p (yL hp);unfold S14.big at hb;simp only[not_or]at hb;exact⟨h6 k c p hc hp,hP.tab.ok,hP.mch.byt,by omega⟩
theorem zlH(N:S14.N)(L:NLay)(l:List Nat)(a:Option Addr)(cap:Nat)(w:World)(hN:NRaw N L w)(hlx:∀x∈l,x<4294967296)(hl:l.length≤9223372036854775807)(hrd:Rd w a (zeS l)) :
 Calls Tryz.prog 7 #[NV N L,.slice a l.length cap] w fun e w'=>e = .returned (.bool true)∧Below w.heap.size w w':=by
 have HA:=zD fun W=>awake14_any W;by_cases hs:S14.small N
 ·have HF:=zD fun(W:World) (hW:Below w.heap.size w W)=>few14_any N L W (hN.step hW) true (by simp[hs]);obtain⟨hNI,hn40,hlc⟩:=small_nis14 hN hs;by_cases hl40:l.length≤40
  ·obtain⟨M,er,hM1,hM3,hMc,hG⟩:=sets14 N l hlx hl40 hn40 hlc (fun h0=>⟨200,small_good14 hNI hs h0⟩);have HG1:=zD fun(W:World) (hW:Below w.heap.size w W)=>(hG L a cap W (hNI.step hW) (hrd.step hW)).1;have HG2:=zD fun(W:World) (hW:Below w.heap.size w W)=>(hG L a cap W (hNI.step hW) (hrd.step hW)).2;have HS:=zD fun(L1 L2:NLay) (W:World) (h1:NIs M L1 W) (h2:NIs M L2 W)=>rsame14_eq M L1 L2 W h1 h2 hM1 hM3 hMc;unfold NV zaI at *;unfold Gives14 NV zaI at HG1 HG2;obtain⟨n,hn⟩:∃n,l.length=n:=⟨_,rfl⟩;obtain⟨nc,hnc⟩:∃n,N.comps.length=n:=⟨_,rfl⟩;obtain⟨np,hnp⟩:∃n,N.parts.length=n:=⟨_,rfl⟩;obtain⟨nx,hnx⟩:∃n,N.ctxs.length=n:=⟨_,rfl⟩;obtain⟨pt,hpt⟩:∃n,N.part=n:=⟨_,rfl⟩;obtain⟨mc,hmc⟩:∃n,M.comps.length=n:=⟨_,rfl⟩;obtain⟨mp,hmp⟩:∃n,M.parts.length=n:=⟨_,rfl⟩;obtain⟨mx,hmx⟩:∃n,M.ctxs.length=n:=⟨_,rfl⟩;obtain⟨mt,hmt⟩:∃n,M.part=n:=⟨_,rfl⟩;simp only[hnc,hnp,hnx,hpt]at HF;simp only[hmc,hmp,hmx,hmt,hnc,hnp,hnx,hpt,hn]at HG1 HG2 HS;rw[hnc,hnp,hnx,hpt,hn];rw[hn]at hl40;have hlz:¬(40:Int)<n:=by omega
   obtain⟨W1,hW1⟩:∃W1,w.alloc (.cells #[.slice L.a1 nc L.c1,.slice L.a2 np L.c2,.slice L.a3 nx L.c3,.int .i64 pt] 26)=W1:=⟨_,rfl⟩;have k1:Blk W1 w.heap.size [.slice L.a1 nc L.c1,.slice L.a2 np L.c2,.slice L.a3 nx L.c3,.int .i64 pt] 26:=by rw[←hW1];exact Blk.new w _ _
   have B1:Below w.heap.size w W1:=by rw[←hW1];exact(zJ _ _).alloc (zF _) _
   clear hs hN hNI hn40 hlc hn hnc hnp hnx hpt hmc hmp hmx hmt hG hl40 hM1 hM3 hMc hrd hlx hl;go_enter Tryz.func7,Tryz.ntmps7;go_wp2_with (first
    | (rw[hW1])
    | (refine zT 26 (.tmp 2) (by rfl) (by rfl) w.heap.size (by rfl) [.slice L.a1 nc L.c1,.slice L.a2 np L.c2,.slice L.a3 nx L.c3,.int .i64 pt] 26 k1 _ Tryz.underlying26 rfl info_N ?_))
   refine(HF.out _ B1).mono ?_;rintro e w3 ⟨rfl,hb3⟩;have B3:=zA B1 hb3;have k3:=k1.step hb3;clear k1 B1 hb3 hW1;go_wp2_with (first
    | (refine zT 26 (.tmp 2) (by rfl) (by rfl) w.heap.size (by rfl) [.slice L.a1 nc L.c1,.slice L.a2 np L.c2,.slice L.a3 nx L.c3,.int .i64 pt] 26 k3 _ Tryz.underlying26 rfl info_N ?_))
   refine(HG1.out _ B3).mono ?_;rintro e w4 ⟨L4,rfl,hN4,hb4⟩;have B4:=zA B3 hb4;have k4:=k3.step hb4;clear k3 B3 hb4;obtain⟨b5,hb5⟩:∃b,w4.heap.size=b:=⟨_,rfl⟩;obtain⟨W5,hW5⟩:∃W,w4.alloc (.cells #[.slice none 0 0,.slice none 0 0,.slice none 0 0,.int .i64 0] 26)=W:=⟨_,rfl⟩;have q5:Blk W5 b5 [.slice none 0 0,.slice none 0 0,.slice none 0 0,.int .i64 0] 26:=by rw[←hW5,←hb5];exact Blk.new w4 _ _
   have hba5:Below w4.heap.size w4 W5:=by rw[←hW5];exact(zJ _ _).alloc (zF _) _
   have k5:=k4.step hba5;have hz5:w4.heap.size≤b5:=by omega
   have hwb5:w.heap.size<b5:=by rw[←hb5];exact k4.lt
   have B5:=zA B4 hba5;clear B4 k4;go_wp2_with (first
    | (rw[hW5,hb5])
    | (rw[hW5])
    | (refine yD 26 (.tmp 5) (.tmp 22) (by rfl) (by rfl) b5 (by rfl) [.slice L4.a1 mc L4.c1,.slice L4.a2 mp L4.c2,.slice L4.a3 mx L4.c3,.int .i64 mt] (by rfl) _ 26 q5 info_N rfl (by simp[Value.oneCell']) ?_;intro w6 q6 g6 s6;clear s6;have k6:=k5.keptRow g6 (by intro e;have:=zL e;omega);have B6:=B5.trans (yC g6 (by omega) B5.size);have hN6:∀W',Below w6.heap.size w6 W'→NIs M L4 W':=fun W' h=>hN4 W' ((hba5.trans (yC g6 hz5 hba5.size)).trans (h.mono (hba5.trans (yC g6 hz5 hba5.size)).size));clear k5 B5 hba5 g6)
    | (refine zT 26 (.tmp 2) (by rfl) (by rfl) w.heap.size (by rfl) [.slice L.a1 nc L.c1,.slice L.a2 np L.c2,.slice L.a3 nx L.c3,.int .i64 pt] 26 k6 _ Tryz.underlying26 rfl info_N ?_))
   clear hN4 hW5 hb5 q5;refine(HG2.out _ B6).mono ?_;rintro e w7 ⟨L7,rfl,hN7,hb7⟩;have B7:=zA B6 hb7;have q7:=q6.step hb7;have hN67:∀W',Below w7.heap.size w7 W'→NIs M L4 W':=fun W' h=>hN6 W' (zA hb7 h);clear k6 B6 hb7 hN6 q6;obtain⟨b8,hb8⟩:∃b,w7.heap.size=b:=⟨_,rfl⟩;obtain⟨W8,hW8⟩:∃W,w7.alloc (.cells #[.slice none 0 0,.slice none 0 0,.slice none 0 0,.int .i64 0] 26)=W:=⟨_,rfl⟩;have q8:Blk W8 b8 [.slice none 0 0,.slice none 0 0,.slice none 0 0,.int .i64 0] 26:=by rw[←hW8,←hb8];exact Blk.new w7 _ _
   have hba8:Below w7.heap.size w7 W8:=by rw[←hW8];exact(zJ _ _).alloc (zF _) _
   have q58:=q7.step hba8;have hz8:w7.heap.size≤b8:=by omega
   have hb58:b5<b8:=by rw[←hb8];exact q7.lt
   have B8:=zA B7 hba8;clear B7 q7;go_wp2_with (first
    | (rw[hW8,hb8])
    | (rw[hW8])
    | (refine yD 26 (.tmp 7) (.tmp 28) (by rfl) (by rfl) b8 (by rfl) [.slice L7.a1 mc L7.c1,.slice L7.a2 mp L7.c2,.slice L7.a3 mx L7.c3,.int .i64 mt] (by rfl) _ 26 q8 info_N rfl (by simp[Value.oneCell']) ?_;intro w9 q9 g9 s9;clear s9;have q59:=q58.keptRow g9 (by intro e;have:=zL e;omega);have B9:=B8.trans (yC g9 (by omega) B8.size);have hb79:=hba8.trans (yC g9 hz8 hba8.size);have HSr:=HS.out L4 L7 w9 (hN67 w9 hb79) (hN7 w9 hb79);clear q58 B8 hba8 g9 hb79)
    | (refine zT 26 (.tmp 5) (by rfl) (by rfl) b5 (by rfl) [.slice L4.a1 mc L4.c1,.slice L4.a2 mp L4.c2,.slice L4.a3 mx L4.c3,.int .i64 mt] 26 q59 _ Tryz.underlying26 rfl info_N ?_)
    | (refine zT 26 (.tmp 7) (by rfl) (by rfl) b8 (by rfl) [.slice L7.a1 mc L7.c1,.slice L7.a2 mp L7.c2,.slice L7.a3 mx L7.c3,.int .i64 mt] 26 q9 _ Tryz.underlying26 rfl info_N ?_))
   refine HSr.mono ?_;rintro e v1 ⟨rfl,hv1⟩;have hzz:(er==er)=true:=by simp
   go_wp2_with fail;refine(HA.out _).mono ?_;rintro e v4 ⟨rfl,hv4⟩;go_wp2;go_returns;exact⟨rfl,zA (zA B9 hv1) hv4⟩
  ·unfold NV zaI at *;obtain⟨n,hn⟩:∃n,l.length=n:=⟨_,rfl⟩;obtain⟨nc,hnc⟩:∃n,N.comps.length=n:=⟨_,rfl⟩;obtain⟨np,hnp⟩:∃n,N.parts.length=n:=⟨_,rfl⟩;obtain⟨nx,hnx⟩:∃n,N.ctxs.length=n:=⟨_,rfl⟩;obtain⟨pt,hpt⟩:∃n,N.part=n:=⟨_,rfl⟩;simp only[hnc,hnp,hnx,hpt]at HF;rw[hnc,hnp,hnx,hpt,hn];rw[hn]at hl40;have hlz:(40:Int)<n:=by omega
   obtain⟨W1,hW1⟩:∃W1,w.alloc (.cells #[.slice L.a1 nc L.c1,.slice L.a2 np L.c2,.slice L.a3 nx L.c3,.int .i64 pt] 26)=W1:=⟨_,rfl⟩;have k1:Blk W1 w.heap.size [.slice L.a1 nc L.c1,.slice L.a2 np L.c2,.slice L.a3 nx L.c3,.int .i64 pt] 26:=by rw[←hW1];exact Blk.new w _ _
   have B1:Below w.heap.size w W1:=by rw[←hW1];exact(zJ _ _).alloc (zF _) _
   clear hs hN hNI hn40 hlc hn hnc hnp hnx hpt hl40 hrd hlx hl;go_enter Tryz.func7,Tryz.ntmps7;go_wp2_with (first
    | (rw[hW1])
    | (refine zT 26 (.tmp 2) (by rfl) (by rfl) w.heap.size (by rfl) [.slice L.a1 nc L.c1,.slice L.a2 np L.c2,.slice L.a3 nx L.c3,.int .i64 pt] 26 k1 _ Tryz.underlying26 rfl info_N ?_))
   refine(HF.out _ B1).mono ?_;rintro e w2 ⟨rfl,hb2⟩;have B2:=zA B1 hb2;go_wp2_with fail;refine(HA.out _).mono ?_;rintro e w4 ⟨rfl,hb4⟩;go_wp2;go_returns;exact⟨rfl,zA B2 hb4⟩
 ·have HF:=zD fun(W:World) (hW:Below w.heap.size w W)=>few14_any N L W (hN.step hW) false (by simp[hs]);unfold NV zaI at *;obtain⟨n,hn⟩:∃n,l.length=n:=⟨_,rfl⟩;obtain⟨nc,hnc⟩:∃n,N.comps.length=n:=⟨_,rfl⟩;obtain⟨np,hnp⟩:∃n,N.parts.length=n:=⟨_,rfl⟩;obtain⟨nx,hnx⟩:∃n,N.ctxs.length=n:=⟨_,rfl⟩;obtain⟨pt,hpt⟩:∃n,N.part=n:=⟨_,rfl⟩;simp only[hnc,hnp,hnx,hpt]at HF;rw[hnc,hnp,hnx,hpt,hn];obtain⟨W1,hW1⟩:∃W1,w.alloc (.cells #[.slice L.a1 nc L.c1,.slice L.a2 np L.c2,.slice L.a3 nx L.c3,.int .i64 pt] 26)=W1:=⟨_,rfl⟩;have k1:Blk W1 w.heap.size [.slice L.a1 nc L.c1,.slice L.a2 np L.c2,.slice L.a3 nx L.c3,.int .i64 pt] 26:=by rw[←hW1];exact Blk.new w _ _
  have B1:Below w.heap.size w W1:=by rw[←hW1];exact(zJ _ _).alloc (zF _) _
  clear hs hN hn hnc hnp hnx hpt hrd hlx hl;go_enter Tryz.func7,Tryz.ntmps7;go_wp2_with (first
   | (rw[hW1])
   | (refine zT 26 (.tmp 2) (by rfl) (by rfl) w.heap.size (by rfl) [.slice L.a1 nc L.c1,.slice L.a2 np L.c2,.slice L.a3 nx L.c3,.int .i64 pt] 26 k1 _ Tryz.underlying26 rfl info_N ?_))
  refine(HF.out _ B1).mono ?_;rintro e w2 ⟨rfl,hb2⟩;have B2:=zA B1 hb2;go_wp2_with fail;refine(HA.out _).mono ?_;rintro e w4 ⟨rfl,hb4⟩;go_wp2;go_returns;exact⟨rfl,zA B2 hb4⟩
end Go.Proofs.YtieeogndnhighaaGreat
namespace Go.Proofs.YtieeogndnhighaaGreat
open Go.ChangeShapes Go.WideShapes Go.ChangeAt Go.RowKit
theorem zhF(os:Os)(started:os.Started)(H:Type)(enc:TypeId×Value→H) :
 ReturnsInHanded {} Tryz.checked os 7 .any (Rows.networkSetsSpec.pre6 enc Tryz.prog Tryz.f7 Rows.networkSetsRow.domain false) (Rows.networkSetsSpec.post enc Tryz.prog Tryz.f7 false true false false):=by
 refine returnsInHanded_of_change (C:=Tryz.checked) lawOwn started (by kernel_rfl) Tryz.func7
  (ChangeSpec.witness6 (enc:=enc) (C:=Tryz.checked) false ⟨#[],#[.agg #[.slice none 0 0,.slice none 0 0,.slice none 0 0,.int .i64 0],.slice none 0 0],[]⟩ 8 (by kernel_rfl) (by kernel_rfl) (by kernel_rfl) (by kernel_rfl)) ?_
 intro W base args ds gs before hval0 hW hcnd _;have hval:∀(j:Nat) t v,Tryz.f7.params[j]? = some t→args[j]? = some v→Value.okWide Tryz.prog W .any base t v:=hval0;have hW':=hW;obtain⟨p,q,hA0,hV,rfl,hfz,hnd⟩:=hW;have hA:DataW.TrodAll enc Tryz.prog W 0 (fun _=>true) true Tryz.f7.params.toList args.toList ds p:=hA0;rw[Tryz.params7]at hA hval;obtain⟨v0,vs0,d0,ds0,p0,q0,hargs,rfl,rfl,h0,r0⟩:=trodAll_cons hA;obtain⟨v1,vs1,d1,ds1,p1,q1,rfl,rfl,rfl,h1,r1⟩:=trodAll_cons r0;obtain⟨rfl,rfl,rfl⟩:=trodAll_nil r1;obtain rfl:args = #[v0,v1]:=by cases args;simp_all
 obtain⟨rfl,rfl⟩:=trodVars_none hV;have k0:=h0;have lt0:∀x∈p0,x.block<W.heap.size:=by obtain⟨m,hm⟩:=k0;exact DataW.trod_lt m _ _ _ hm
 have ok0:=hval 0 26 v0 rfl rfl;have k1:=h1;have lt1:∀x∈p1,x.block<W.heap.size:=by obtain⟨m,hm⟩:=k1;exact DataW.trod_lt m _ _ _ hm
 have ok1:=hval 1 24 v1 rfl rfl;clear hA0 hval0;obtain⟨N,L,rfl,hN⟩:=open_net ok0 h0;obtain⟨a,l,cap,rfl,hl,hrd,hlx⟩:=open_u32s ok1 h1;refine(zlH N L l a cap W hN hlx hl hrd).mono fun e W' ⟨he,bel⟩=> ?_;subst he;exact⟨_,rfl,_,_,_,[],_,[],hW',trodAll_mk1 (shut_bool Tryz.underlying4 _),(trodAll_cons_mk (Below.trod lawLaid (by kernel_rfl) (of_decide_eq_true (by kernel_rfl)) k0 bel lt0) (trodAll_cons_mk (Below.trod lawLaid (by kernel_rfl) (of_decide_eq_true (by kernel_rfl)) k1 bel lt1) trodAll_mk0)),rfl,bel.frame _,fun h=>by cases h⟩
theorem NetworkSets_holds:Rows.NetworkSetsSaid:=
 OpenClaim.holds_of_wide 7 Tryz.f7 rfl rfl rfl rfl rfl rfl rfl ⟨rfl,rfl,rfl,rfl,rfl⟩ rfl rfl rfl rfl rfl (by kernel_rfl) Tryz.func7 (by kernel_rfl)
  (of_decide_eq_true (by kernel_rfl)) (by unfold Func.isWrapper;rw[zR (of_decide_eq_false (by kernel_rfl))];exact⟨rfl,rfl⟩)
  (fun os started H enc _=>zhF os started H enc)
