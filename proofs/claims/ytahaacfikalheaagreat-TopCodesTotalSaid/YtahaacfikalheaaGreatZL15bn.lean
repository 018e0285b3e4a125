/- A part of the proof of L15. No condition. -/
import Derived.Test.YtahaacfikalheaaGreatZL15bk
set_option linter.all false
set_option maxRecDepth 100000
set_option maxHeartbeats 8000000
namespace Go.Proofs.YtahaacfikalheaaGreat
open Go.RowKit
theorem KepX.old{E X:Nat→Prop}{w0 w W:World}(hb:Below w0.heap.size w0 w)(hk:KepX X w W)(h:∀k,k<w0.heap.size→X k→E k):KepX E w0 W:=
 ⟨hk.os.trans hb.os,hk.tape.trans hb.tape,hk.output.trans hb.output,yC hb.size hk.size,fun k hE hl=>(hk.same k (fun hx=>hE (h k hl hx)) (zaF hl hb.size)).trans (hb.block k hl)⟩
theorem zqJ(N N2:S14.N)(L:NLay)(l:List Nat)(a:Option Addr)(cap:Nat)(w:World)(E:Nat→Prop)(hE:∀k,E k→k<w.heap.size)(hNE:∀W,KepX E w W→NIs N L W)(HR:zfP N L w)(h0:S14.checkNet N=0)(h1:N.part=1)(hl:l.length=16)(hlx:∀x∈l,x<4294967296)(hrd:Rd w a (zhJ l))
 (HOp:ziH w ⟨N.comps,N.parts,l,1⟩ N2) :
 Calls Tryz.prog 28 #[NV N L,.slice a 16 cap] w fun e w'=>∃L',e = .returned (.tuple #[NV N2 L',.int .i64 0])∧(∀W,KepX E w' W→NIs N2 L' W)∧Below w.heap.size w w':=by
 have hN:=hNE w (KepX.refl _ _);have HE:=zB hE;have HNE:=zB hNE;obtain⟨hck,hpl,hxl,_,_,_⟩:=S14.checkNet_zero h0;obtain⟨hl0,hl16,_⟩:=S14.check_zero hck;obtain⟨W1,hW1⟩:∃W1,(w.alloc (.cells (zdN N L).toArray 40)).alloc (.cells zN 40)=W1:=⟨_,rfl⟩;have k1:Blk W1 w.heap.size (zdN N L) 40:=by rw[←hW1];exact(Blk.new w _ _).alloc _
 have r1:Blk W1 (w.heap.size+1) [.slice none 0 0,.slice none 0 0,.slice none 0 0,.int .i64 0] 40:=by
  rw[←hW1];have h:=Blk.new (w.alloc (.cells (zdN N L).toArray 40)) [.slice none 0 0,.slice none 0 0,.slice none 0 0,.int .i64 0] 40;rwa[zV]at h
 have B1:Below w.heap.size w W1:=by rw[←hW1];exact((zF _ _).alloc (zD _) _).alloc (by simp) _
 have HC:=zB (zjA N L W1 (hN.step B1) (by omega) (fun k c p y h1 h2 h3 h4 W hW=>HR k c p y h1 h2 h3 h4 W (zA B1 hW)));rw[h0]at HC;have HCp:=zB fun(W:World) (hW:Below w.heap.size w W)=>znL N L W (hN.step hW) ⟨hl0,hl16⟩ hpl hxl;obtain⟨gl,ol,rfl,_⟩:=hrd (fun e=>by have h:=yS List.length e;rw[zcH,List.length_nil]at h;omega);have HCl:=zB fun(W:World) (hW:Below w.heap.size w W)=>zqK (zhJ l) 16 (by rw[zcH,hl]) (zuC l) gl ol cap W (by decide) (by decide) (hrd.step hW);have HN:=zB hN;have HO:=zB HOp;have Hlx:=zB hlx;have Hl:=zB hl;unfold zN at hW1;clear HR h0 hck HOp hlx hl hrd hE hNE;unfold NV zdN at HC HCp;unfold zdN at k1 hW1;unfold NV zdN;obtain⟨nc,hnc⟩:∃n,N.comps.length=n:=⟨_,rfl⟩;obtain⟨np,hnp⟩:∃n,N.parts.length=n:=⟨_,rfl⟩;obtain⟨nx,hnx⟩:∃n,N.ctxs.length=n:=⟨_,rfl⟩;rw[hnc,hnp,hnx,h1]at HC HCp k1 hW1;rw[hnp,hnc]at hpl;rw[hnx]at hxl;rw[hnc]at hl0 hl16;rw[hnc,hnp,hnx,h1];have Hnc:=zB hnc;have Hnp:=zB hnp;have Hpt:=zB h1;clear hnc hnp hnx h1 hN;subst hpl;subst hxl;go_enter Tryz.func28,Tryz.ntmps28;go_wp2_with (first
  | (rw[hW1])
  | (refine yA 40 (.tmp 2) (by rfl) (by rfl) w.heap.size (by rfl) [.slice L.a1 np L.c1,.slice L.a2 np L.c2,.slice L.a3 16 L.c3,.int .i64 1] 40 k1 _ Tryz.underlying40 rfl info_N ?_))
 refine HC.out.mono ?_;rintro e w2 ⟨rfl,hb2⟩;have k2:=k1.step hb2;have r2:=r1.step hb2;have B2:=zA B1 hb2;clear k1 r1 hW1 B1 hb2 HC;have cp:=k2.cell 3;simp only[zuK]at cp;go_wp2_with (first
  | (refine yA 40 (.tmp 2) (by rfl) (by rfl) w.heap.size (by rfl) [.slice L.a1 np L.c1,.slice L.a2 np L.c2,.slice L.a3 16 L.c3,.int .i64 1] 40 k2 _ Tryz.underlying40 rfl info_N ?_))
 refine(HCp.out _ B2).mono ?_;rintro e w4 ⟨a1,c1,a2,c2,a3,c3,rfl,own1,own2,own3,hb4⟩;have B4:=zA B2 hb4;have r4:=r2.step hb4;obtain⟨D,hD⟩:∃D,w2.heap.size=D:=⟨_,rfl⟩;have hwD:w.heap.size+1<D:=by rw[←hD];exact r2.lt
 rw[hD]at own1 own2 own3;unfold OwnP at own2;rw[Hnp.out]at own2;obtain⟨NB,hNB⟩:∃NB,w4.heap.size=NB:=⟨_,rfl⟩;have hb4s:=hb4.size;clear k2 r2 hb4 HCp B2 cp own3;have hDN:D≤NB:=by rw[←hD,←hNB];exact hb4s
 obtain⟨W5,hW5⟩:∃W5,w4.alloc (.cells #[.slice none 0 0,.slice none 0 0,.slice none 0 0,.int .i64 0] 40)=W5:=⟨_,rfl⟩;have hb5:Below w4.heap.size w4 W5:=by rw[←hW5];exact(zF _ _).alloc (zD _) _
 have EN:Blk W5 NB [.slice none 0 0,.slice none 0 0,.slice none 0 0,.int .i64 0] 40:=by rw[←hW5,←hNB];exact Blk.new w4 _ _
 obtain⟨gC,rfl,hC1,hC2,hC3,hC4⟩:=zdQ own1 hl0;obtain⟨g2,rfl,hP1,hP2,hP3,hP4⟩:=zdQ own2 hl0;rw[hNB]at hC2 hP2;have hneCP:gC≠g2:=zhT own1 own2 (by decide);go_wp2_with (first
  | (rw[hW5,hNB])
  | (rw[hW5])
  | (refine zT 40 (.tmp 7) (.tmp 25) (by rfl) (by rfl) NB (by rfl) [.slice (some ⟨gC,0,none⟩) np c1,.slice (some ⟨g2,0,none⟩) np c2,.slice a3 16 c3,.int .i64 1] (by rfl) _ 40 EN info_N rfl (by simp[Value.oneCell']) ?_;intro wL EL gL sL))
 have hXN:KepX (fun k=>k=NB) w4 wL:=(KepX.below hb5).trans (KepX.row gL (fun b e=>.inl (zK e).symm));have BL:Below w.heap.size w wL:=hXN.toBelow B4 (fun k e=>by have e:k=NB:=e;omega);have rL:=r4.kepX hXN (show¬_=NB by omega);have own1L:=zdG own1 hXN (fun g e=>by have e:some gC=some g:=e;cases e;show¬_=NB;omega);have own2L:=zdG own2 hXN (fun g e=>by have e:some g2=some g:=e;cases e;show¬_=NB;omega);clear own1 own2 r4 B4 gL sL EN hb5 hXN hW5;refine(HCl.out _ BL).mono ?_;rintro e w6 ⟨bX,cX,rfl,ownX,hb6⟩;have B6:=zA BL hb6;have E6:=EL.step hb6;have r6:=rL.step hb6;have own16:=yX (B:=0) own1L hb6;have own26:=yX (B:=0) own2L hb6;have hzL:NB<wL.heap.size:=EL.lt;clear own1L own2L EL rL BL hb6 HCl;obtain⟨gX,rfl,hX1,hX2,hX3,hX4⟩:=zdQ ownX (by decide);have f2:=E6.cell 2;have f2f:=E6.free 2;have nB:=E6.set 2 (.slice (some ⟨gX,0,none⟩) 16 cX);have rB:=r6.other NB 2 (.slice (some ⟨gX,0,none⟩) 16 cX) (by omega);have hkA:KepX (fun b=>b=NB) w6 (w6.setCell ⟨NB,2,none⟩ (.slice (some ⟨gX,0,none⟩) 16 cX)):=KepX.row (zbO w6 NB 2 (.slice (some ⟨gX,0,none⟩) 16 cX)) (fun b e=>.inl (zK e).symm);simp only[sC0,sCs,lgz,lgs]at f2 nB;obtain⟨w7,hw7⟩:∃W,w6.setCell ⟨NB,2,none⟩ (.slice (some ⟨gX,0,none⟩) 16 cX)=W:=⟨_,rfl⟩;rw[hw7]at nB rB hkA;have B7:Below w.heap.size w w7:=hkA.toBelow B6 (fun k e=>by have e:k=NB:=e;omega);have own17:=zdG own16 hkA (fun g e=>by have e:some gC=some g:=e;cases e;show¬_=NB;omega);have own27:=zdG own26 hkA (fun g e=>by have e:some g2=some g:=e;cases e;show¬_=NB;omega);have ownX7:=zdG ownX hkA (fun g e=>by have e:some gX=some g:=e;cases e;show¬_=NB;omega);have hz7:=nB.lt;have hs7:w6.heap.size≤w7.heap.size:=hkA.size;have hz6:wL.heap.size≤w6.heap.size:=by omega
 have hXE:∀(X:Nat→Prop) W2,KepX X w7 W2→(∀k,k<w.heap.size→X k→E k)→NIs N L W2:=fun X W2 hk h=>HNE.out W2 (KepX.old B7 hk h)
 have HNI:∀W2,KepX (fun b=>E b∨b=w.heap.size+1∨b=NB) w7 W2→NIs ⟨N.comps,N.parts,l,1⟩ ⟨some ⟨gC,0,none⟩,c1,some ⟨g2,0,none⟩,c2,some ⟨gX,0,none⟩,cX,L.ys⟩ W2:=fun W2 hk=>
  {rc:=(Rd.of_owns own17).kepX hk (fun g o e=>by cases e;exact fun h=>h.elim (fun h=>by have:=HE.out _ h;omega) (fun h=>by omega))
   rp:=(Rd.of_owns own27).kepX hk (fun g o e=>by cases e;exact fun h=>h.elim (fun h=>by have:=HE.out _ h;omega) (fun h=>by omega))
   rx:=(Rd.of_owns ownX7).kepX hk (fun g o e=>by cases e;exact fun h=>h.elim (fun h=>by have:=HE.out _ h;omega) (fun h=>by omega))
   ly:=HN.out.ly
   ps:=fun j p y h1 h2=>(hXE _ W2 hk (fun k hl h=>h.elim (fun h=>h) (fun h=>by omega))).ps j p y h1 h2
   xs:=Hlx.out
   l1:=⟨by show N.comps.length≤_;rw[Hnc.out];exact hC3,hC4⟩
   l2:=⟨by show N.parts.length≤_;rw[Hnp.out];exact hP3,hP4⟩
   l3:=⟨by show l.length≤_;rw[Hl.out];exact hX3,hX4⟩}
 have HT:=HO.out ⟨some ⟨gC,0,none⟩,c1,some ⟨g2,0,none⟩,c2,some ⟨gX,0,none⟩,cX,L.ys⟩ w7 (fun b=>E b∨b=w.heap.size+1∨b=NB) B7 (fun k h=>h.elim (fun h=>by have:=HE.out _ h;have:=B7.size;omega) (fun h=>by omega)) HNI
  (by
    show w7.ownsRow w.heap.size 78 16 (.slice (some ⟨g2,0,none⟩) N.parts.length c2) N.parts.length (PCs N.parts L.ys);rw[Hnp.out];exact zcZ own27 (by omega))
  (fun j p y h1 h2 W2 hk=>(hXE _ W2 hk (fun k hl h=>h.elim (fun h=>h.elim (fun h=>h) (fun h=>by omega)) (fun h=>by have h:some g2=some k:=h;have:=zK h;omega))).ps j p y h1 h2)
  (fun b hb=>by
    have hb:some g2=some b:=hb;have:=zK hb;exact fun h=>h.elim (fun h=>by have:=HE.out _ h;omega) (fun h=>by omega))
  (fun W2 hk=>⟨(Rd.of_owns own17).kepX hk (fun g o e=>by cases e;exact fun h=>h.elim (fun h=>h.elim (fun h=>by have:=HE.out _ h;omega) (fun h=>by omega)) (fun h=>by have h:some g2=some gC:=h;exact hneCP (zK h).symm)),
    (Rd.of_owns ownX7).kepX hk (fun g o e=>by cases e;exact fun h=>h.elim (fun h=>h.elim (fun h=>by have:=HE.out _ h;omega) (fun h=>by omega)) (fun h=>by have h:some g2=some gX:=h;have:=zK h;omega))⟩)
 unfold NV zdN at HT;simp only[Hnp.out,Hnc.out,Hl.out]at HT;have HTo:=zB HT;clear HT HO HNI hXE own16 own26 ownX own17 own27 ownX7 E6 r6 hkA;go_wp2_with (first
  | (rw[hw7])
  | (refine yA 40 (.tmp 7) (by rfl) (by rfl) NB (by rfl) [.slice (some ⟨gC,0,none⟩) np c1,.slice (some ⟨g2,0,none⟩) np c2,.slice (some ⟨gX,0,none⟩) 16 cX,.int .i64 1] 40 nB _ Tryz.underlying40 rfl info_N ?_))
 refine HTo.out.mono ?_;rintro e w8 ⟨L',rfl,hN',hk8⟩;have r8:=rB.kepX hk8 (fun e=>by have e:some g2=some (w.heap.size+1):=e;have:=zK e;omega);have B8:=hk8.toBelow B7 (fun b e=>by have e:some g2=some b:=e;have:=zK e;omega);have HN':=zB hN';clear hN' hk8 nB rB HTo;go_wp2_with (first
  | (refine zT 40 (.tmp 4) (.tmp 30) (by rfl) (by rfl) (w.heap.size+1) (by rfl) [.slice L'.a1 N2.comps.length L'.c1,.slice L'.a2 N2.parts.length L'.c2,.slice L'.a3 N2.ctxs.length L'.c3,.int .i64 N2.part] (by rfl) _ 40 r8 info_N rfl (by simp[Value.oneCell']) ?_;intro wR ER gR sR))
 have hL:=run_loadVar_mid wR _ 0 _ _ _ ER.cells Tryz.underlying40 rfl info_N;refine bodyPost_ret (v:=.tuple #[.agg #[.slice L'.a1 N2.comps.length L'.c1,.slice L'.a2 N2.parts.length L'.c2,.slice L'.a3 N2.ctxs.length L'.c3,.int .i64 N2.part],.int .i64 0]) ?_ rfl ?_
 ·exact zaI (show Tryz.f28.results = #[.cell 4 40,.tmp 5]from rfl) (p:=⟨w.heap.size+1,0,none⟩) rfl rfl hL
 ·exact⟨L',rfl,fun W hW=>HN'.out W ((KepX.row gR (fun b e=>.inl (.inr (.inl (zK e).symm)))).trans (hW.mono (fun b _ h=>.inl h))),B8.trans (yG gR (by omega) B8.size)⟩
