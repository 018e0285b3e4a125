/- A part of the proof of L14s. No condition. -/
import Derived.Test.YtieeogndnhighaaGreatZL14sbu
import Derived.Test.YtieeogndnhighaaGreatZL14sbx
set_option linter.all false
set_option maxRecDepth 100000
set_option maxHeartbeats 8000000
namespace Go.Proofs.YtieeogndnhighaaGreat
open Go.RowKit
theorem rcopy14_any(N:S14.N)(L:NLay)(w:World)(hN:NIs N L w)(h1:1≤N.comps.length∧N.comps.length≤16)(h2:N.parts.length=N.comps.length)(h3:N.ctxs.length=16) :
 Calls Tryz.prog 58 #[NV N L] w fun e w'=>∃a1 c1 a2 c2 a3 c3,e = .returned (NV N ⟨a1,c1,a2,c2,a3,c3,L.ys⟩)∧w'.ownsRow w.heap.size 54 6 (.slice a1 N.comps.length c1) N.comps.length (zdB N.comps)∧
  OwnP w' w.heap.size a2 c2 N.parts L.ys∧w'.ownsRow w.heap.size 109 1 (.slice a3 N.ctxs.length c3) N.ctxs.length (zeS N.ctxs)∧Below w.heap.size w w':=by
 obtain⟨g1,o1,ha1,_⟩:=hN.rc (fun e=>by have h:=yQ List.length e;rw[yS,List.length_nil]at h;omega);obtain⟨g2,o2,ha2,_⟩:=hN.rp (fun e=>by have h:=yQ List.length e;rw[zbP _ _ hN.ly,List.length_nil]at h;omega);obtain⟨g3,o3,ha3,_⟩:=hN.rx (fun e=>by have h:=yQ List.length e;rw[zaC,List.length_nil]at h;omega);have hr1:=hN.rc;have hr2:=hN.rp;have hr3:=hN.rx;have l1:(zdB N.comps).length=N.comps.length*6:=by rw[yS,Nat.mul_comm]
 have l2:(PCs N.parts L.ys).length=N.comps.length*16:=by rw[zbP _ _ hN.ly,h2,Nat.mul_comm]
 have l3:(zeS N.ctxs).length=16*1:=by rw[zaC,h3]
 have q1:=zkO N.comps;have q2:=PCs_one N.parts L.ys;have q3:=zkN N.ctxs;obtain⟨a1,c1,a2,c2,a3,c3,ys⟩:=L;simp only at ha1 ha2 ha3 hr1 hr2 hr3 l2 q2;subst ha1 ha2 ha3;unfold OwnP NV zaI;obtain⟨V1,hV1⟩:∃v,zdB N.comps=v:=⟨_,rfl⟩;obtain⟨V2,hV2⟩:∃v,PCs N.parts ys=v:=⟨_,rfl⟩;obtain⟨V3,hV3⟩:∃v,zeS N.ctxs=v:=⟨_,rfl⟩;obtain⟨n,hn⟩:∃n,N.comps.length=n:=⟨_,rfl⟩;obtain⟨pt,hpt⟩:∃n,N.part=n:=⟨_,rfl⟩;rw[hV1]at l1 q1 hr1;rw[hV2]at l2 q2 hr2;rw[hV3]at l3 q3 hr3;rw[hn]at l1 l2 h1;simp only[h2,h3,hV1,hV2,hV3,hn,hpt];have n1:V1≠ []:=fun e=>by rw[e,List.length_nil]at l1;omega
 have n2:V2≠ []:=fun e=>by rw[e,List.length_nil]at l2;omega
 have n3:V3≠ []:=fun e=>by rw[e,List.length_nil]at l3;omega
 have HR1:=zD hr1;have HR2:=zD hr2;have HR3:=zD hr3;have HL:=zD (zbJ l1 (zbJ l2 l3));have HQ:=zD (zbJ q1 (zbJ q2 q3));have HNe:=zD (zbJ n1 (zbJ n2 n3));clear hN h2 h3 hr1 hr2 hr3 l1 l2 l3 q1 q2 q3 n1 n2 n3 hV1 hV2 hV3 hn hpt;obtain⟨W1,hW1⟩:∃W,(w.alloc (.cells #[.slice (some ⟨g1,o1,none⟩) n c1,.slice (some ⟨g2,o2,none⟩) n c2,.slice (some ⟨g3,o3,none⟩) 16 c3,.int .i64 pt] 26)).alloc (.cells #[.slice none 0 0,.slice none 0 0,.slice none 0 0,.int .i64 0] 26)=W:=⟨_,rfl⟩;have k1:Blk W1 w.heap.size [.slice (some ⟨g1,o1,none⟩) n c1,.slice (some ⟨g2,o2,none⟩) n c2,.slice (some ⟨g3,o3,none⟩) 16 c3,.int .i64 pt] 26:=by rw[←hW1];exact(Blk.new w _ _).alloc _
 have kR:Blk W1 (w.heap.size+1) [.slice none 0 0,.slice none 0 0,.slice none 0 0,.int .i64 0] 26:=by
  rw[←hW1];have h:=Blk.new (w.alloc (.cells #[.slice (some ⟨g1,o1,none⟩) n c1,.slice (some ⟨g2,o2,none⟩) n c2,.slice (some ⟨g3,o3,none⟩) 16 c3,.int .i64 pt] 26)) [.slice none 0 0,.slice none 0 0,.slice none 0 0,.int .i64 0] 26;rwa[zZ]at h
 have B1:Below w.heap.size w W1:=by rw[←hW1];exact((zJ _ _).alloc (zF _) _).alloc (by simp) _
 have hC:Cells W1 [(⟨w.heap.size,0,none⟩,.slice (some ⟨g1,o1,none⟩) n c1),(⟨w.heap.size,1,none⟩,.slice (some ⟨g2,o2,none⟩) n c2),(⟨w.heap.size,2,none⟩,.slice (some ⟨g3,o3,none⟩) 16 c3),(⟨w.heap.size,3,none⟩,.int .i64 pt)]:=⟨k1.cell 0,k1.cell 1,k1.cell 2,k1.cell 3,yJ⟩;clear k1;go_enter Tryz.func58,Tryz.ntmps58;go_wp2_with (rw[hW1]);refine zpD 15 1 [(U,[U,U,U,zoZ,U,U,U,zoZ,U,U,U,zoZ,U,U]),(zoZ,[zoZ,zoZ,zoZ,U]),(zoZ,[zoZ,zoZ,zoZ,zoZ,zoZ,zoZ,zoZ,U]),(zoZ,[zoZ,zoZ,zoZ,zoZ,zoZ,zoZ,zoZ,zoZ,zoZ,zoZ,zoZ,U]),(U,[zoZ,zoZ,zoZ,zoZ,zoZ,zoZ,zoZ,zoZ,zoZ,zoZ,zoZ,zoZ,zoZ,zoZ,U])] (Keeps W1 [(⟨w.heap.size,0,none⟩,.slice (some ⟨g1,o1,none⟩) n c1),(⟨w.heap.size,1,none⟩,.slice (some ⟨g2,o2,none⟩) n c2),(⟨w.heap.size,2,none⟩,.slice (some ⟨g3,o3,none⟩) 16 c3),(⟨w.heap.size,3,none⟩,.int .i64 pt)]) (by kernel_rfl) (Keeps.start hC) (fun Y Q4 F4 hY hF=> ?_);simp only[zpB]
 repeat
  apply zE (by rw[hY];rfl)
  ·intro w2 hS2;(try simp only[Keeps,Cells]at hS2);go_simp;with_reducible rfl
  simp only[zpA]
 have hS0:=Keeps.start hC;obtain⟨w2,hw2⟩:∃W,W1.drew=W:=⟨_,rfl⟩;rw[hw2]at hS0⊢;refine zbV (.tmp 6) (.tmp 8) 22 54 6 48 _ w2.heap.size zgI (.slice none 0 0) 0 [] ⟨g1,o1,none⟩ n c1 V1 (by rw[hY];rfl) rfl rfl rfl HL.out.1 HNe.out.1 HQ.out.1 (by unfold maxLen;omega) (by omega) (World.ownsRow_nil _ _ _ _) (HR1.out.step (zA B1 hS0.1)) (zF _) ?_;intro a4 c4 w3 ow1 hg3 _;rw[yP,List.nil_append]at ow1;rw[yP];have hb3:Below w2.heap.size w2 w3:=Below.grown (zJ _ _) hg3 (zF _) (fun r e=>by cases e);have hS3:=hS0.step hb3;refine⟨hS3,?_⟩;simp only[zpA]
 repeat
  apply zE (by rw[hY];rfl)
  ·intro w2 hS2;(try simp only[Keeps,Cells]at hS2);go_simp;with_reducible rfl
  simp only[zpA]
 refine zbV (.tmp 10) (.tmp 12) 23 83 16 240 _ w3.heap.size zgH (.slice none 0 0) 0 [] ⟨g2,o2,none⟩ n c2 V2 (by rw[hY];rfl) rfl rfl rfl HL.out.2.1 HNe.out.2.1 HQ.out.2.1 (by unfold maxLen;omega) (by omega) (World.ownsRow_nil _ _ _ _) (HR2.out.step (zA B1 hS3.1)) (zF _) ?_;intro a5 c5 w4 ow2 hg4 _;rw[yP,List.nil_append]at ow2;rw[yP];have hb4:Below w3.heap.size w3 w4:=Below.grown (zJ _ _) hg4 (zF _) (fun r e=>by cases e);have hS4:=hS3.step hb4;refine⟨hS4,?_⟩;simp only[zpA]
 repeat
  apply zE (by rw[hY];rfl)
  ·intro w2 hS2;(try simp only[Keeps,Cells]at hS2);go_simp;with_reducible rfl
  simp only[zpA]
 refine zbV (.tmp 14) (.tmp 16) 24 109 1 4 _ w4.heap.size elems_u32 (.slice none 0 0) 0 [] ⟨g3,o3,none⟩ 16 c3 V3 (by rw[hY];rfl) rfl rfl rfl HL.out.2.2 HNe.out.2.2 HQ.out.2.2 (by unfold maxLen;omega) (by omega) (World.ownsRow_nil _ _ _ _) (HR3.out.step (zA B1 hS4.1)) (zF _) ?_;intro a6 c6 w5 ow3 hg5 _;rw[yP,List.nil_append]at ow3;rw[yP];have hb5:Below w4.heap.size w4 w5:=Below.grown (zJ _ _) hg5 (zF _) (fun r e=>by cases e);have hS5:=hS4.step hb5;refine⟨hS5,?_⟩;simp only[zpA]
 repeat
  apply zE (by rw[hY];rfl)
  ·intro w2 hS2;(try simp only[Keeps,Cells]at hS2);go_simp;with_reducible rfl
  simp only[zpA]
 have own2:=zD (yO (B:=0) ow2 hb5);have own1:=zD (yO (B:=0) ow1 (zA hb4 hb5));have own3:=zD ow3;have kR5:=kR.step hS5.1;have B5:=zA B1 hS5.1;have z2:=B1.size;have z3:=hS0.1.size;have z4:=hS3.1.size;have z5:=hS4.1.size;have hkz:=kR.lt;refine zV (hF.out _ _ (fun K hK=> ?_));clear hF hY ow1 ow2 ow3 hg3 hg4 hg5 hS0 hS3 hS4 hS5 hb3 hb4 hb5 hC kR;simp only[ldc,ldz];refine yD 26 (.tmp 2) (.tmp 20) (by rfl) (by rfl) (w.heap.size+1) (by rfl) [.slice a4 n c4,.slice a5 n c5,.slice a6 16 c6,.int .i64 pt] (by rfl) _ 26 kR5 info_N rfl (by simp[Value.oneCell']) ?_;intro wL EL gL sL;go_wp2_with fail;refine OnlyK.mk (hK.out _ _ ?_);go_wp2_with fail;have hL:=run_loadVar_mid wL _ 0 _ _ _ EL.cells Tryz.underlying26 rfl info_N;refine bodyPost_ret (v:=.agg #[.slice a4 n c4,.slice a5 n c5,.slice a6 16 c6,.int .i64 pt]) ?_ rfl ?_
 ·exact zbH (show Tryz.f58.results = #[.cell 2 26]from rfl) (p:=⟨w.heap.size+1,0,none⟩) rfl hL
 ·have hk:KepX (fun k=>k=w.heap.size+1) w5 wL:=KepX.row gL (fun b e=>.inl (zL e).symm);refine⟨a4,c4,a5,c5,a6,c6,rfl,zbG (zaO own1.out hk (fun g e=> ?_)) ?_,zbG (zaO own2.out hk (fun g e=> ?_)) ?_,zbG (zaO own3.out hk (fun g e=> ?_)) ?_,B5.trans (yC gL (by omega) B5.size)⟩
  ·have:=(own1.out.lt g e).1;show¬g=_;omega
  ·omega
  ·have:=(own2.out.lt g e).1;show¬g=_;omega
  ·omega
  ·have:=(own3.out.lt g e).1;show¬g=_;omega
  ·omega
theorem putAt_all14{α:Type}(xs vs:List α)(h:vs.length=xs.length):zfR xs 0 vs=vs:=by
 unfold zfR;rw[List.take_zero,List.nil_append,yP,h,List.drop_length,List.append_nil]
theorem zjW(N N2:S14.N)(L:NLay)(l:List Nat)(a:Option Addr)(cap:Nat)(w:World)(E:Nat→Prop)(hE:∀k,E k→k<w.heap.size)(hNE:∀W,KepX E w W→NIs N L W)(hlc:∀p∈N.parts,p.ctrs.length≤9223372036854775807)(h0:S14.checkNet N=0)(h1:N.part=1)(hl:l.length=16)(hlx:∀x∈l,x<4294967296)(hrd:Rd w a (zeS l))
 (HOp:znZ w ⟨N.comps,N.parts,l,1⟩ N2) :
 Calls Tryz.prog 28 #[NV N L,.slice a 16 cap] w fun e w'=>∃L',e = .returned (.tuple #[NV N2 L',.int .i64 0])∧(∀W,KepX E w' W→NIs N2 L' W)∧Below w.heap.size w w':=by
 have hN:=hNE w (KepX.refl _ _);have HE:=zD hE;have HNE:=zD hNE;obtain⟨hck,hpl,hxl,_,_,_⟩:=S14.checkNet_zero h0;obtain⟨hl0,hl16,_⟩:=S14.check_zero hck;obtain⟨W1,hW1⟩:∃W1,(w.alloc (.cells (zaI N L).toArray 26)).alloc (.cells zN 26)=W1:=⟨_,rfl⟩;have k1:Blk W1 w.heap.size (zaI N L) 26:=by rw[←hW1];exact(Blk.new w _ _).alloc _
 have r1:Blk W1 (w.heap.size+1) [.slice none 0 0,.slice none 0 0,.slice none 0 0,.int .i64 0] 26:=by
  rw[←hW1];have h:=Blk.new (w.alloc (.cells (zaI N L).toArray 26)) [.slice none 0 0,.slice none 0 0,.slice none 0 0,.int .i64 0] 26;rwa[zZ]at h
 have B1:Below w.heap.size w W1:=by rw[←hW1];exact((zJ _ _).alloc (zF _) _).alloc (by simp) _
 have HC:=zD (zfF N L W1 (hN.step B1) (by omega) hlc);rw[h0]at HC;have HCp:=zD fun(W:World) (hW:Below w.heap.size w W)=>rcopy14_any N L W (hN.step hW) ⟨hl0,hl16⟩ hpl hxl;obtain⟨gl,ol,rfl,_⟩:=hrd (fun e=>by have h:=yQ List.length e;rw[zaC,List.length_nil]at h;omega);have Hrd:=zD hrd;have HN:=zD hN;have HO:=zD HOp;have Hlx:=zD hlx;have Hl:=zD hl;unfold zN at hW1;clear hlc h0 hck HOp hlx hl hrd hE hNE;unfold NV zaI at HC HCp;unfold zaI at k1 hW1;unfold NV zaI;obtain⟨nc,hnc⟩:∃n,N.comps.length=n:=⟨_,rfl⟩;obtain⟨np,hnp⟩:∃n,N.parts.length=n:=⟨_,rfl⟩;obtain⟨nx,hnx⟩:∃n,N.ctxs.length=n:=⟨_,rfl⟩;rw[hnc,hnp,hnx,h1]at HC HCp k1 hW1;rw[hnp,hnc]at hpl;rw[hnx]at hxl;rw[hnc]at hl0 hl16;rw[hnc,hnp,hnx,h1];have Hnc:=zD hnc;have Hnp:=zD hnp;have Hpt:=zD h1;have Hnx:=zD (hnx.trans hxl);clear hnc hnp hnx h1 hN;subst hpl;subst hxl;go_enter Tryz.func28,Tryz.ntmps28;go_wp2_with (first
  | (rw[hW1])
  | (refine zT 26 (.tmp 2) (by rfl) (by rfl) w.heap.size (by rfl) [.slice L.a1 np L.c1,.slice L.a2 np L.c2,.slice L.a3 16 L.c3,.int .i64 1] 26 k1 _ Tryz.underlying26 rfl info_N ?_))
 refine HC.out.mono ?_;rintro e w2 ⟨rfl,hb2⟩;have k2:=k1.step hb2;have r2:=r1.step hb2;have B2:=zA B1 hb2;clear k1 r1 hW1 B1 hb2 HC;have cp:=k2.cell 3;simp only[zpC]at cp;go_wp2_with (first
  | (refine zT 26 (.tmp 2) (by rfl) (by rfl) w.heap.size (by rfl) [.slice L.a1 np L.c1,.slice L.a2 np L.c2,.slice L.a3 16 L.c3,.int .i64 1] 26 k2 _ Tryz.underlying26 rfl info_N ?_))
 refine(HCp.out _ B2).mono ?_;rintro e w4 ⟨a1,c1,a2,c2,a3,c3,rfl,own1,own2,own3,hb4⟩;have B4:=zA B2 hb4;have r4:=r2.step hb4;obtain⟨D,hD⟩:∃D,w2.heap.size=D:=⟨_,rfl⟩;have hwD:w.heap.size+1<D:=by rw[←hD];exact r2.lt
 rw[hD]at own1 own2 own3;unfold OwnP at own2;rw[Hnp.out]at own2;obtain⟨NB,hNB⟩:∃NB,w4.heap.size=NB:=⟨_,rfl⟩;have hb4s:=hb4.size;clear k2 r2 hb4 HCp B2 cp;have hDN:D≤NB:=by rw[←hD,←hNB];exact hb4s
 obtain⟨W5,hW5⟩:∃W5,w4.alloc (.cells #[.slice none 0 0,.slice none 0 0,.slice none 0 0,.int .i64 0] 26)=W5:=⟨_,rfl⟩;have hb5:Below w4.heap.size w4 W5:=by rw[←hW5];exact(zJ _ _).alloc (zF _) _
 have EN:Blk W5 NB [.slice none 0 0,.slice none 0 0,.slice none 0 0,.int .i64 0] 26:=by rw[←hW5,←hNB];exact Blk.new w4 _ _
 obtain⟨gC,rfl,hC1,hC2,hC3,hC4⟩:=zaQ own1 hl0;obtain⟨g2,rfl,hP1,hP2,hP3,hP4⟩:=zaQ own2 hl0;rw[hNB]at hC2 hP2;have hneCP:gC≠g2:=zcH own1 own2 (by decide);obtain⟨gX,rfl,hX1,hX2,hX3,hX4⟩:=zaQ own3 (by decide);rw[hNB]at hX2;have hneCX:gC≠gX:=zcH own1 own3 (by decide);have hnePX:g2≠gX:=zcH own2 own3 (by decide);go_wp2_with (first
  | (rw[hW5,hNB])
  | (rw[hW5])
  | (refine yD 26 (.tmp 7) (.tmp 23) (by rfl) (by rfl) NB (by rfl) [.slice (some ⟨gC,0,none⟩) np c1,.slice (some ⟨g2,0,none⟩) np c2,.slice (some ⟨gX,0,none⟩) 16 c3,.int .i64 1] (by rfl) _ 26 EN info_N rfl (by simp[Value.oneCell']) ?_;intro wL EL gL sL;have hXN:KepX (fun k=>k=NB) w4 wL:=(KepX.below hb5).trans (KepX.row gL (fun b e=>.inl (zL e).symm));have BL:Below w.heap.size w wL:=hXN.toBelow B4 (fun k e=>by have e:k=NB:=e;omega);have rL:=r4.kepX hXN (show¬_=NB by omega);have own1L:=zaO own1 hXN (fun g e=>by have e:some gC=some g:=e;cases e;show¬_=NB;omega);have own2L:=zaO own2 hXN (fun g e=>by have e:some g2=some g:=e;cases e;show¬_=NB;omega);have own3L:=zaO own3 hXN (fun g e=>by have e:some gX=some g:=e;cases e;show¬_=NB;omega);have hz7:=EL.lt;have f2:=EL.cell 2;simp only[zpC]at f2;have hlu:(zeS l).length=16:=by rw[zaC,Hl.out]
     have hth:wL.there gX 0 (zeS l).length:=zcC own3L (by rw[hlu];exact zF _);have hrl:=Hrd.out.step BL;have hcp:=zdT (P:=Tryz.prog) wL 24 24 3 109 1 Tryz.underlying24 (by kernel_rfl) gX 0 16 c3 (some ⟨gl,ol,none⟩) 16 cap 16 rfl (zeS l) (by rw[hlu]) hrl hth (zkN l);obtain⟨w7,hw7⟩:∃W,wL.setCells gX 0 (zeS l)=W:=⟨_,rfl⟩;have hkA:KepX (fun b=>b=gX) wL w7:=by rw[←hw7];exact KepX.row (yY gX (zeS l) 0 wL) (fun b e=>.inl (zL e).symm)
     have ownX7:=zeA own3L (o:=0) (vs:=zeS l) (by rw[hlu];exact zF _);rw[hw7]at hcp ownX7;rw[putAt_all14 _ _ (by rw[hlu,zaC];exact Hnx.out.symm)]at ownX7;have nB:=EL.kepX hkA (show¬_=gX by omega);have rB:=rL.kepX hkA (show¬_=gX by omega);have B7:Below w.heap.size w w7:=hkA.toBelow BL (fun k e=>by have e:k=gX:=e;omega);have own17:=zaO own1L hkA (fun g e=>by have e:some gC=some g:=e;cases e;exact hneCX);have own27:=zaO own2L hkA (fun g e=>by have e:some g2=some g:=e;cases e;exact hnePX);have hzR:NB<w7.heap.size:=nB.lt;have hXE:∀(X:Nat→Prop) W2,KepX X w7 W2→(∀k,k<w.heap.size→X k→E k)→NIs N L W2:=fun X W2 hk h=>HNE.out W2 (KepX.old B7 hk h)
     have HNI:∀W2,KepX (fun b=>E b∨b=w.heap.size+1∨b=NB) w7 W2→NIs ⟨N.comps,N.parts,l,1⟩ ⟨some ⟨gC,0,none⟩,c1,some ⟨g2,0,none⟩,c2,some ⟨gX,0,none⟩,c3,L.ys⟩ W2:=fun W2 hk=>
      {rc:=(Rd.of_owns own17).kepX hk (fun g o e=>by cases e;exact fun h=>h.elim (fun h=>by have:=HE.out _ h;omega) (fun h=>by omega))
       rp:=(Rd.of_owns own27).kepX hk (fun g o e=>by cases e;exact fun h=>h.elim (fun h=>by have:=HE.out _ h;omega) (fun h=>by omega))
       rx:=(Rd.of_owns ownX7).kepX hk (fun g o e=>by cases e;exact fun h=>h.elim (fun h=>by have:=HE.out _ h;omega) (fun h=>by omega))
       ly:=HN.out.ly
       ps:=fun j p y h1 h2=>(hXE _ W2 hk (fun k hl h=>h.elim (fun h=>h) (fun h=>by omega))).ps j p y h1 h2
       xs:=Hlx.out
       l1:=⟨by show N.comps.length≤_;rw[Hnc.out];exact hC3,hC4⟩
       l2:=⟨by show N.parts.length≤_;rw[Hnp.out];exact hP3,hP4⟩
       l3:=⟨by show l.length≤_;rw[Hl.out];exact hX3,hX4⟩}
     have HT:=HO.out ⟨some ⟨gC,0,none⟩,c1,some ⟨g2,0,none⟩,c2,some ⟨gX,0,none⟩,c3,L.ys⟩ w7 (fun b=>E b∨b=w.heap.size+1∨b=NB) B7 (fun k h=>h.elim (fun h=>by have:=HE.out _ h;have:=B7.size;omega) (fun h=>by omega)) HNI
      (by
        show w7.ownsRow w.heap.size 83 16 (.slice (some ⟨g2,0,none⟩) N.parts.length c2) N.parts.length (PCs N.parts L.ys);rw[Hnp.out];exact zbG own27 (by omega))
      (fun j p y h1 h2 W2 hk=>(hXE _ W2 hk (fun k hl h=>h.elim (fun h=>h.elim (fun h=>h) (fun h=>by omega)) (fun h=>by have h:some g2=some k:=h;have:=zL h;omega))).ps j p y h1 h2)
      (fun b hb=>by
        have hb:some g2=some b:=hb;have:=zL hb;exact fun h=>h.elim (fun h=>by have:=HE.out _ h;omega) (fun h=>by omega))
      (fun W2 hk=>⟨(Rd.of_owns own17).kepX hk (fun g o e=>by cases e;exact fun h=>h.elim (fun h=>h.elim (fun h=>by have:=HE.out _ h;omega) (fun h=>by omega)) (fun h=>by have h:some g2=some gC:=h;exact hneCP (zL h).symm)),
        (Rd.of_owns ownX7).kepX hk (fun g o e=>by cases e;exact fun h=>h.elim (fun h=>h.elim (fun h=>by have:=HE.out _ h;omega) (fun h=>by omega)) (fun h=>by have h:some g2=some gX:=h;have:=zL h;omega))⟩)
     unfold NV zaI at HT;simp only[Hnp.out,Hnc.out,Hl.out]at HT;have HTo:=zD HT;clear HT HO HNI hXE own1 own2 own3 own1L own2L own3L r4 B4 gL sL EN hb5 hXN rL hth hrl own17 own27 ownX7 hkA hlu BL)
  | (refine zT 26 (.tmp 7) (by rfl) (by rfl) NB (by rfl) [.slice (some ⟨gC,0,none⟩) np c1,.slice (some ⟨g2,0,none⟩) np c2,.slice (some ⟨gX,0,none⟩) 16 c3,.int .i64 1] 26 nB _ Tryz.underlying26 rfl info_N ?_)
  | (rw[hcp]))
 refine HTo.out.mono ?_;rintro e w8 ⟨rfl,ys',hVN,hN',hk8⟩;have n8:=nB.kepX hk8 (fun e=>by have e:some g2=some NB:=e;have:=zL e;omega);have r8:=rB.kepX hk8 (fun e=>by have e:some g2=some (w.heap.size+1):=e;have:=zL e;omega);have B8:=hk8.toBelow B7 (fun b e=>by have e:some g2=some b:=e;have:=zL e;omega);have HVN:=zD hVN;have HN':=zD hN';clear hN' hk8 nB rB HTo hVN;go_wp2_with (first
  | (refine zT 26 (.tmp 7) (by rfl) (by rfl) NB (by rfl) [.slice (some ⟨gC,0,none⟩) np c1,.slice (some ⟨g2,0,none⟩) np c2,.slice (some ⟨gX,0,none⟩) 16 c3,.int .i64 1] 26 n8 _ Tryz.underlying26 rfl info_N ?_)
  | (refine yD 26 (.tmp 4) (.tmp 30) (by rfl) (by rfl) (w.heap.size+1) (by rfl) [.slice (some ⟨gC,0,none⟩) np c1,.slice (some ⟨g2,0,none⟩) np c2,.slice (some ⟨gX,0,none⟩) 16 c3,.int .i64 1] (by rfl) _ 26 r8 info_N rfl (by simp[Value.oneCell']) ?_;intro wR ER gR sR))
 have hL:=run_loadVar_mid wR _ 0 _ _ _ ER.cells Tryz.underlying26 rfl info_N;refine bodyPost_ret (v:=.tuple #[.agg #[.slice (some ⟨gC,0,none⟩) np c1,.slice (some ⟨g2,0,none⟩) np c2,.slice (some ⟨gX,0,none⟩) 16 c3,.int .i64 1],.int .i64 0]) ?_ rfl ?_
 ·exact yV (show Tryz.f28.results = #[.cell 4 26,.tmp 5]from rfl) (p:=⟨w.heap.size+1,0,none⟩) rfl rfl hL
 ·refine⟨_,yQ (fun v=>Ending.returned (.tuple #[.agg (List.toArray v),.int .i64 0])) HVN.out.symm,fun W hW=>HN'.out W ((KepX.row gR (fun b e=>.inl (.inr (.inl (zL e).symm)))).trans (hW.mono (fun b _ h=>.inl h))),B8.trans (yC gR (by omega) B8.size)⟩
theorem zbW{P:Program}{w:World}{ops:Array Oper}{rest:List Oper}{o:Oper}{a:Act}{Q:Exit→Act→World→Prop}(T:TypeId)(x:Operand)(hw:Region.wanted o (yielded ops a.tmps)=true)(ho:o.op = .load T x)
 (b off:Nat) (hx:a.eval x = .pointer (some ⟨b,off,none⟩)) (cs:List Value) (hc:w.rangeAt b off cs) (d:TypeDesc) (hu:P.underlying T=some d) (hd:d.isRow=true) (hi:(P.info? T).map (·.size)=some cs.length)
 (h:wpList P ops Q rest (a.put o.dst (.agg cs.toArray)) w):wpList P ops Q (o::rest) a w:=by
 simp only[wpList,hw,if_true];exact .inl (wp_load_mid T x ho b off hx cs d hc hu hd hi h)
theorem znN:(Tryz.prog.info? 75).map (·.size)=some 2:=by kernel_rfl
theorem info_X14e:(Tryz.prog.info? 79).map (·.size)=some 2:=by kernel_rfl
theorem rsameComps14(l:List S14.C)(a b:Option Addr)(ca cb:Nat)(w:World)(hn:l.length≤100000)(ha:Rd w a (zdB l))(hb:Rd w b (zdB l)) :
 Calls Tryz.prog 47 #[.slice a l.length ca,.slice b l.length cb] w fun e w'=>e = .returned (.bool true)∧Below w.heap.size w w':=by
 obtain⟨n,hnn⟩:∃n,l.length=n:=⟨_,rfl⟩;have Hat:=zD fun k (hk:k<n)=>(⟨_,zG (by omega)⟩:∃x,l[k]? = some x);have Hne:=zD (fun(e:zdB l = [])=>show n=0 by have:=yQ List.length e;rw[yS,List.length_nil]at this;omega);rw[hnn]at hn⊢;clear hnn;go_enter Tryz.func47,Tryz.ntmps47;go_wp2_with fail;go_loopw [5] (fun i wr=>∃k:Nat,k≤n∧i = .int .i64 k∧Below w.heap.size w wr) (fun i _=>n-(intOf i).toNat)
 case atStart=>exact⟨0,by omega,rfl,by go_grown⟩
 case round=>
  obtain⟨k,hk,rfl,hB⟩:=hrel;by_cases hlt:k<n
  ·have hl4:(k:Int)<(n:Int):=by omega
   have hne:zdB l≠ []:=fun e=>by have:=Hne.out e;omega
   obtain⟨x,hx⟩:=Hat.out k hlt;obtain⟨ba,oa,rfl,hra⟩:=(ha.step hB) hne;obtain⟨bb,ob,rfl,hrb⟩:=(hb.step hB) hne;obtain⟨x0,x1,x2,x3,x4,x5⟩:=zjO hra hx;obtain⟨y0,y1,y2,y3,y4,y5⟩:=zjO hrb hx;clear hra hrb hx hne;have hC:zaW [(⟨ba,oa+k*6,none⟩,.int .i64 x.kind),(⟨ba,oa+k*6+1,none⟩,.int .i64 x.bits),(⟨ba,oa+k*6+2,none⟩,.int .i64 x.limit),(⟨ba,oa+k*6+3,none⟩,.int .i64 x.rate),(⟨ba,oa+k*6+4,none⟩,.int .i64 x.first),(⟨ba,oa+k*6+5,none⟩,.int .i64 x.second),(⟨bb,ob+k*6,none⟩,.int .i64 x.kind),(⟨bb,ob+k*6+1,none⟩,.int .i64 x.bits),(⟨bb,ob+k*6+2,none⟩,.int .i64 x.limit),(⟨bb,ob+k*6+3,none⟩,.int .i64 x.rate),(⟨bb,ob+k*6+4,none⟩,.int .i64 x.first),(⟨bb,ob+k*6+5,none⟩,.int .i64 x.second)] wr:=⟨x0,x1,x2,x3,x4,x5,y0,y1,y2,y3,y4,y5,yJ⟩;have hB4:=hB.drew;obtain⟨kind,bits,limit,rate,first,second⟩:=x;simp only at hC x0 x1 x2 x3 x4 x5 y0 y1 y2 y3 y4 y5;go_wp2_with fail;refine zpD 9 0 [(U,[U,U,U,U,U,U,U,U,U])] (zaW [(⟨ba,oa+k*6,none⟩,.int .i64 kind),(⟨ba,oa+k*6+1,none⟩,.int .i64 bits),(⟨ba,oa+k*6+2,none⟩,.int .i64 limit),(⟨ba,oa+k*6+3,none⟩,.int .i64 rate),(⟨ba,oa+k*6+4,none⟩,.int .i64 first),(⟨ba,oa+k*6+5,none⟩,.int .i64 second),(⟨bb,ob+k*6,none⟩,.int .i64 kind),(⟨bb,ob+k*6+1,none⟩,.int .i64 bits),(⟨bb,ob+k*6+2,none⟩,.int .i64 limit),(⟨bb,ob+k*6+3,none⟩,.int .i64 rate),(⟨bb,ob+k*6+4,none⟩,.int .i64 first),(⟨bb,ob+k*6+5,none⟩,.int .i64 second)]) (by kernel_rfl) (hC) (fun Y Q4 F4 hY hF=> ?_);simp only[zpB]
   repeat
    apply zE (by rw[hY];rfl)
    ·intro w2 hS2;(try simp only[Keeps,zaW,Cells]at hS2);go_simp;with_reducible rfl
    simp only[zpA]
   repeat
    first
     | (apply zQ (by rw[hY];rfl);simp only[zpA])
     | (apply zE (by rw[hY];rfl)
        ·intro w2 hS2;(try simp only[Keeps,zaW,Cells]at hS2);go_simp;with_reducible rfl
        simp only[zpA])
   refine zV (hF.out _ _ (fun K hK=> ?_));clear hF hY;go_wp2_with fail;refine OnlyK.mk (hK.out _ _ ?_);clear hK;go_wp2;go_roundw
   case rel=>exact⟨k+1,by omega,by go_num,hB4⟩
   case measure=>simp[intOf];omega
  ·obtain rfl:k=n:=by omega
   go_wp2;go_returns;exact⟨rfl,hB⟩
theorem rsameCtxs14(l:List Nat)(a b:Option Addr)(ca cb:Nat)(w:World)(hn:l.length≤100000)(ha:Rd w a (zeS l))(hb:Rd w b (zeS l)) :
 Calls Tryz.prog 48 #[.slice a l.length ca,.slice b l.length cb] w fun e w'=>e = .returned (.bool true)∧Below w.heap.size w w':=by
 have Hl:=zD (zaC l);obtain⟨n,hnn⟩:∃n,l.length=n:=⟨_,rfl⟩;rw[hnn]at Hl hn⊢;clear hnn;go_enter Tryz.func48,Tryz.ntmps48;go_wp2_with fail;go_loopw [5] (fun i wr=>∃k:Nat,k≤n∧i = .int .i64 k∧Below w.heap.size w wr) (fun i _=>n-(intOf i).toNat)
 case atStart=>exact⟨0,by omega,rfl,by go_grown⟩
 case round=>
  obtain⟨k,hk,rfl,hB⟩:=hrel;by_cases hlt:k<n
  ·have hl4:(k:Int)<(n:Int):=by omega
   obtain⟨ba,oa,rfl,hra⟩:=(ha.step hB).at (i:=k) (by rw[Hl.out];exact hlt);obtain⟨bb,ob,rfl,hrb⟩:=(hb.step hB).at (i:=k) (by rw[Hl.out];exact hlt);have x0:=hra k (by rw[Hl.out];exact hlt);have y0:=hrb k (by rw[Hl.out];exact hlt);obtain⟨x,hx⟩:∃x:Nat,(zeS l)[k]'(by rw[Hl.out];exact hlt) = .int .u32 (x:Int):=⟨l[k]'(by have:=Hl.out;rw[zaC]at this;omega),by simp[zeS]⟩;rw[hx]at x0 y0;clear hra hrb hx;have hC:zaW [(⟨ba,oa+k,none⟩,.int .u32 (x:Int)),(⟨bb,ob+k,none⟩,.int .u32 (x:Int))] wr:=⟨x0,y0,yJ⟩;have hB4:=hB.drew;go_wp2_with fail;refine zpD 9 0 [(U,[U,U,U,U,U,U,U,U,U])] (zaW [(⟨ba,oa+k,none⟩,.int .u32 (x:Int)),(⟨bb,ob+k,none⟩,.int .u32 (x:Int))]) (by kernel_rfl) (hC) (fun Y Q4 F4 hY hF=> ?_);simp only[zpB]
   repeat
    apply zE (by rw[hY];rfl)
    ·intro w2 hS2;(try simp only[Keeps,zaW,Cells]at hS2);go_simp;with_reducible rfl
    simp only[zpA]
   repeat
    first
     | (apply zQ (by rw[hY];rfl);simp only[zpA])
     | (apply zE (by rw[hY];rfl)
        ·intro w2 hS2;(try simp only[Keeps,zaW,Cells]at hS2);go_simp;with_reducible rfl
        simp only[zpA])
   refine zV (hF.out _ _ (fun K hK=> ?_));clear hF hY;go_wp2_with fail;refine OnlyK.mk (hK.out _ _ ?_);clear hK;go_wp2;go_roundw
   case rel=>exact⟨k+1,by omega,by go_num,hB4⟩
   case measure=>simp[intOf];omega
  ·obtain rfl:k=n:=by omega
   go_wp2;go_returns;exact⟨rfl,hB⟩
theorem rsamePart14(p:S14.P)(y z:Lay)(w:World)(hP:PIs p y w)(hQ:PIs p z w)(hc1:p.ctrs.length≤100000)(hc2:p.m.ctrs.length≤100000) :
 Calls Tryz.prog 49 #[PV p y,PV p z] w fun e w'=>e = .returned (.bool true)∧Below w.heap.size w w':=by
 have H08:=zD fun(W:World) (hW:Below w.heap.size w W)=>zfD p.ctrs y.a1 z.a1 y.c1 z.c1 W hc1 (hP.rc.step hW) (hQ.rc.step hW)
 have H10:=zD fun(W:World) (hW:Below w.heap.size w W)=>(show Calls Tryz.prog 76 #[.agg #[.int .i64 p.sb,.slice y.a2 p.sd.length y.c2],.agg #[.int .i64 p.sb,.slice z.a2 p.sd.length z.c2]] W fun e w'=>e = .returned (.bool true)∧Below W.heap.size W w' by
  have h:=same10_any p.sb p.sb p.sd p.sd y.a2 z.a2 y.c2 z.c2 W (hP.tab.rd.step hW) (hQ.tab.rd.step hW);rw[show(decide (p.sb=p.sb)&&((strOfNums p.sd).toList==(strOfNums p.sd).toList))=true by simp]at h;exact h)
 have H12:=zD fun(W:World) (hW:Below w.heap.size w W)=>rsame12_eq p.m y.pl z.pl W (hP.mch.step hW) (hQ.mch.step hW) hc2;have H13:=zD fun(W:World) (hW:Below w.heap.size w W)=>(show Calls Tryz.prog 78 #[.agg #[.int .i64 p.mi,.slice y.a3 p.mw.length y.c3],.agg #[.int .i64 p.mi,.slice z.a3 p.mw.length z.c3]] W _ from same13_eq p.mi p.mw _ _ W (hP.mix.step hW) (hQ.mix.step hW));obtain⟨ay,cy,ey,ly1,ly2,ry⟩:=hP.apm;obtain⟨az,cz,ez,lz1,lz2,rz⟩:=hQ.apm;have ey:ay=y.a4:=by
  unfold ApmC at ey;simp at ey;exact ey.1.symm
 have ez:az=z.a4:=by
  unfold ApmC at ez;simp at ez;exact ez.1.symm
 subst ey;subst ez;have hV1:(yG p y)[0]? = some (.slice y.a1 p.ctrs.length y.c1)∧(yG p y)[3]? = some (.int .i64 p.slot)∧(yG p y)[15]? = some (.slice y.a4 p.ac.length y.c4):=⟨rfl,rfl,rfl⟩;have hV2:(yG p z)[0]? = some (.slice z.a1 p.ctrs.length z.c1)∧(yG p z)[3]? = some (.int .i64 p.slot)∧(yG p z)[15]? = some (.slice z.a4 p.ac.length z.c4):=⟨rfl,rfl,rfl⟩;have hM1:((yG p y).drop 1).take 2 = [.int .i64 p.sb,.slice y.a2 p.sd.length y.c2]∧((yG p y).drop 4).take 9=zbR p.m y.pl∧((yG p y).drop 13).take 2 = [.int .i64 p.mi,.slice y.a3 p.mw.length y.c3]:=⟨rfl,rfl,rfl⟩;have hM2:((yG p z).drop 1).take 2 = [.int .i64 p.sb,.slice z.a2 p.sd.length z.c2]∧((yG p z).drop 4).take 9=zbR p.m z.pl∧((yG p z).drop 13).take 2 = [.int .i64 p.mi,.slice z.a3 p.mw.length z.c3]:=⟨rfl,rfl,rfl⟩;have hml1:(zbR p.m y.pl).length=9:=rfl;have hml2:(zbR p.m z.pl).length=9:=rfl;unfold PV;unfold MV at H12;obtain⟨V1,hV1e⟩:∃v,yG p y=v:=⟨_,rfl⟩;obtain⟨V2,hV2e⟩:∃v,yG p z=v:=⟨_,rfl⟩;obtain⟨M1,hM1e⟩:∃v,zbR p.m y.pl=v:=⟨_,rfl⟩;obtain⟨M2,hM2e⟩:∃v,zbR p.m z.pl=v:=⟨_,rfl⟩;rw[hV1e]at hV1 hM1⊢;rw[hV2e]at hV2 hM2⊢;rw[hM1e]at hM1 hml1 H12;rw[hM2e]at hM2 hml2 H12;obtain⟨l1,h1⟩:∃n,p.ctrs.length=n:=⟨_,rfl⟩;obtain⟨l2,h2⟩:∃n,p.sd.length=n:=⟨_,rfl⟩;obtain⟨l3,h3⟩:∃n,p.mw.length=n:=⟨_,rfl⟩;obtain⟨ac,h4⟩:∃n,p.ac=n:=⟨_,rfl⟩;obtain⟨sb,h5⟩:∃n,p.sb=n:=⟨_,rfl⟩;obtain⟨so,h6⟩:∃n,p.slot=n:=⟨_,rfl⟩;obtain⟨mi,h7⟩:∃n,p.mi=n:=⟨_,rfl⟩;rw[h1]at H08;rw[h1,h4,h6]at hV1 hV2;rw[h2,h3,h5,h7]at hM1 hM2;rw[h2,h5]at H10;rw[h3,h7]at H13;rw[h4]at ry rz ly1 lz1;obtain⟨ya1,yc1,ya2,yc2,yp,ya3,yc3,ya4,yc4⟩:=y;obtain⟨za1,zc1,za2,zc2,zp,za3,zc3,za4,zc4⟩:=z;simp only at H08 H10 H13 hV1 hV2 hM1 hM2 ry rz;obtain⟨W1,hW1⟩:∃W,(w.alloc (.cells V1.toArray 83)).alloc (.cells V2.toArray 83)=W:=⟨_,rfl⟩;have k1:Blk W1 w.heap.size V1 83:=by rw[←hW1];exact(Blk.new w _ _).alloc _
 have k2:Blk W1 (w.heap.size+1) V2 83:=by
  rw[←hW1];have h:=Blk.new (w.alloc (.cells V1.toArray 83)) V2 83;rwa[zZ]at h
 have B1:Below w.heap.size w W1:=by rw[←hW1];exact((zJ _ _).alloc (zF _) _).alloc (by simp) _
 have Hm1:=zD (zbJ hV1 hM1);have Hm2:=zD (zbJ hV2 hM2);have Hml1:=zD hml1;have Hml2:=zD hml2;have Hry:=zD ry;have Hrz:=zD rz;have hacl:ac.length≤9223372036854775807:=by omega
 clear hV1 hM1 hV2 hM2 hml1 hml2 ry rz hP hQ h1 h2 h3 h4 h5 h6 h7 hV1e hV2e hM1e hM2e hc1 hc2 ly1 lz1 ly2 lz2;have c0:W1.cell? ⟨w.heap.size,0,none⟩=_:=(k1.cell 0).trans Hm1.out.1.1;have d0:W1.cell? ⟨w.heap.size+1,0,none⟩=_:=(k2.cell 0).trans Hm2.out.1.1;go_enter Tryz.func49,Tryz.ntmps49;go_wp2_with (rw[hW1]);refine(H08.out _ B1).mono ?_;rintro e w2 ⟨rfl,hb2⟩;have k12:=k1.step hb2;have k22:=k2.step hb2;have B2:=zA B1 hb2;clear c0 d0 k1 k2 B1 hb2 hW1;go_wp2_with (first
  | (refine zbW 75 (.tmp 13) (by rfl) (by rfl) w.heap.size 1 (by rfl) [.int .i64 sb,.slice ya2 l2 yc2] (k12.mid14 Hm1.out.2.1) _ Tryz.underlying75 rfl znN ?_)
  | (refine zbW 75 (.tmp 15) (by rfl) (by rfl) (w.heap.size+1) 1 (by rfl) [.int .i64 sb,.slice za2 l2 zc2] (k22.mid14 Hm2.out.2.1) _ Tryz.underlying75 rfl znN ?_))
 refine(H10.out _ B2).mono ?_;rintro e w3 ⟨rfl,hb3⟩;have k13:=k12.step hb3;have k23:=k22.step hb3;have B3:=zA B2 hb3;have c3:w3.cell? ⟨w.heap.size,3,none⟩=_:=(k13.cell 3).trans Hm1.out.1.2.1;have d3:w3.cell? ⟨w.heap.size+1,3,none⟩=_:=(k23.cell 3).trans Hm2.out.1.2.1;clear k12 k22 B2 hb3;go_wp2_with (first
  | (refine zbW 77 (.tmp 28) (by rfl) (by rfl) w.heap.size 4 (by rfl) M1 (k13.mid14 Hm1.out.2.2.1) _ Tryz.underlying77 rfl (info_M14.trans (yQ some Hml1.out.symm)) ?_)
  | (refine zbW 77 (.tmp 30) (by rfl) (by rfl) (w.heap.size+1) 4 (by rfl) M2 (k23.mid14 Hm2.out.2.2.1) _ Tryz.underlying77 rfl (info_M14.trans (yQ some Hml2.out.symm)) ?_))
 refine(H12.out _ B3).mono ?_;rintro e w4 ⟨rfl,hb4⟩;have k14:=k13.step hb4;have k24:=k23.step hb4;have B4:=zA B3 hb4;clear c3 d3 k13 k23 B3 hb4;go_wp2_with (first
  | (refine zbW 79 (.tmp 36) (by rfl) (by rfl) w.heap.size 13 (by rfl) [.int .i64 mi,.slice ya3 l3 yc3] (k14.mid14 Hm1.out.2.2.2) _ Tryz.underlying79 rfl info_X14e ?_)
  | (refine zbW 79 (.tmp 38) (by rfl) (by rfl) (w.heap.size+1) 13 (by rfl) [.int .i64 mi,.slice za3 l3 zc3] (k24.mid14 Hm2.out.2.2.2) _ Tryz.underlying79 rfl info_X14e ?_))
 refine(H13.out _ B4).mono ?_;rintro e w5 ⟨rfl,hb5⟩;have k15:=k14.step hb5;have k25:=k24.step hb5;have B5:=zA B4 hb5;have c15:w5.cell? ⟨w.heap.size,15,none⟩=_:=(k15.cell 15).trans Hm1.out.1.2.2;have d15:w5.cell? ⟨w.heap.size+1,15,none⟩=_:=(k25.cell 15).trans Hm2.out.1.2.2;clear k14 k24 B4 hb5;obtain⟨n,hn⟩:∃n,ac.length=n:=⟨_,rfl⟩;rw[hn]at c15 d15 hacl;have Hn:=zD hn;clear hn;have Hd:=zD (zbJ c15 d15);go_wp2_with fail;clear c15 d15;go_loopw [5] (fun i wr=>∃k:Nat,k≤n∧i = .int .i64 k∧Below w5.heap.size w5 wr) (fun i _=>n-(intOf i).toNat)
 case atStart=>exact⟨0,by omega,rfl,zJ _ _⟩
 case round=>
  obtain⟨k,hk,rfl,hB⟩:=hrel;have c15:=(hB.cell (zI Hd.out.1)).trans Hd.out.1;have d15:=(hB.cell (zI Hd.out.2)).trans Hd.out.2;by_cases hlt:k<n
  ·have hl4:(k:Int)<(n:Int):=by omega
   have BB:=zA B5 hB;obtain⟨g1,o1,rfl,hcs1⟩:=(Hry.out.step BB).at (i:=k) (by rw[yM,Hn.out];exact hlt);obtain⟨g2,o2,rfl,hcs2⟩:=(Hrz.out.step BB).at (i:=k) (by rw[yM,Hn.out];exact hlt);have hc1:wr.cell? ⟨g1,o1+k,none⟩=some (.int .i64 (ac[k]'(by rw[Hn.out];exact hlt))):=by rw[hcs1 k (by rw[yM,Hn.out];exact hlt)];simp[zbU]
   have hc2:wr.cell? ⟨g2,o2+k,none⟩=some (.int .i64 (ac[k]'(by rw[Hn.out];exact hlt))):=by rw[hcs2 k (by rw[yM,Hn.out];exact hlt)];simp[zbU]
   obtain⟨x,hx⟩:∃x,ac[k]'(by rw[Hn.out];exact hlt)=x:=⟨_,rfl⟩;rw[hx]at hc1 hc2;clear hcs1 hcs2 hx BB;have hC:zaW [(⟨w.heap.size,15,none⟩,.slice (some ⟨g1,o1,none⟩) n yc4),(⟨w.heap.size+1,15,none⟩,.slice (some ⟨g2,o2,none⟩) n zc4),(⟨g1,o1+k,none⟩,.int .i64 x),(⟨g2,o2+k,none⟩,.int .i64 x)] wr:=⟨c15,d15,hc1,hc2,yJ⟩;have hB4:=hB.drew;go_wp2_with fail;refine zpD 13 0 [(U,[U,U,U,U,U,U,U,U,U,U,U,U,U])] (zaW [(⟨w.heap.size,15,none⟩,.slice (some ⟨g1,o1,none⟩) n yc4),(⟨w.heap.size+1,15,none⟩,.slice (some ⟨g2,o2,none⟩) n zc4),(⟨g1,o1+k,none⟩,.int .i64 x),(⟨g2,o2+k,none⟩,.int .i64 x)]) (by kernel_rfl) (hC) (fun Y Q4 F4 hY hF=> ?_);simp only[zpB]
   repeat
    apply zE (by rw[hY];rfl)
    ·intro w2 hS2;(try simp only[Keeps,zaW,Cells]at hS2);go_simp;with_reducible rfl
    simp only[zpA]
   repeat
    first
     | (apply zQ (by rw[hY];rfl);simp only[zpA])
     | (apply zE (by rw[hY];rfl)
        ·intro w2 hS2;(try simp only[Keeps,zaW,Cells]at hS2);go_simp;with_reducible rfl
        simp only[zpA])
   refine zV (hF.out _ _ (fun K hK=> ?_));clear hF hY;go_wp2_with fail;refine OnlyK.mk (hK.out _ _ ?_);clear hK;go_wp2;go_roundw
   case rel=>exact⟨k+1,by omega,by go_num,hB4⟩
   case measure=>simp[intOf];omega
  ·obtain rfl:k=n:=by omega
   go_wp2;go_returns;exact⟨rfl,zA B5 hB⟩
theorem rsame14_eq(N:S14.N)(L1 L2:NLay)(w:World)(h1:NIs N L1 w)(h2:NIs N L2 w)(hl1:N.comps.length≤100000)(hl3:N.ctxs.length≤100000)(hc:∀p∈N.parts,p.ctrs.length≤100000∧p.m.ctrs.length≤100000) :
 Calls Tryz.prog 17 #[NV N L1,NV N L2] w fun e w'=>e = .returned (.bool true)∧Below w.heap.size w w':=by
 have HC:=zD fun(W:World) (hW:Below w.heap.size w W)=>rsameComps14 N.comps L1.a1 L2.a1 L1.c1 L2.c1 W hl1 (h1.rc.step hW) (h2.rc.step hW);have HX:=zD fun(W:World) (hW:Below w.heap.size w W)=>rsameCtxs14 N.ctxs L1.a3 L2.a3 L1.c3 L2.c3 W hl3 (h1.rx.step hW) (h2.rx.step hW);have hl2:N.parts.length≤9223372036854775807:=by have:=h1.l2;omega
 obtain⟨nc,hnc⟩:∃n,N.comps.length=n:=⟨_,rfl⟩;obtain⟨np,hnp⟩:∃n,N.parts.length=n:=⟨_,rfl⟩;obtain⟨nx,hnx⟩:∃n,N.ctxs.length=n:=⟨_,rfl⟩;obtain⟨pt,hpt⟩:∃n,N.part=n:=⟨_,rfl⟩;unfold NV zaI;rw[hnc,hnp,hnx,hpt];rw[hnc]at HC;rw[hnx]at HX;rw[hnp]at hl2;have Hnp:=zD hnp;have H1:=zD h1;have H2:=zD h2;have Hc:=zD hc;clear hnc hnp hnx hpt h1 h2 hc hl1 hl3;obtain⟨W1,hW1⟩:∃W,(w.alloc (.cells #[.slice L1.a1 nc L1.c1,.slice L1.a2 np L1.c2,.slice L1.a3 nx L1.c3,.int .i64 pt] 26)).alloc (.cells #[.slice L2.a1 nc L2.c1,.slice L2.a2 np L2.c2,.slice L2.a3 nx L2.c3,.int .i64 pt] 26)=W:=⟨_,rfl⟩;have k1:Blk W1 w.heap.size [.slice L1.a1 nc L1.c1,.slice L1.a2 np L1.c2,.slice L1.a3 nx L1.c3,.int .i64 pt] 26:=by rw[←hW1];exact(Blk.new w _ _).alloc _
 have k2:Blk W1 (w.heap.size+1) [.slice L2.a1 nc L2.c1,.slice L2.a2 np L2.c2,.slice L2.a3 nx L2.c3,.int .i64 pt] 26:=by
  rw[←hW1];have h:=Blk.new (w.alloc (.cells #[.slice L1.a1 nc L1.c1,.slice L1.a2 np L1.c2,.slice L1.a3 nx L1.c3,.int .i64 pt] 26)) [.slice L2.a1 nc L2.c1,.slice L2.a2 np L2.c2,.slice L2.a3 nx L2.c3,.int .i64 pt] 26;rwa[zZ]at h
 have B1:Below w.heap.size w W1:=by rw[←hW1];exact((zJ _ _).alloc (zF _) _).alloc (by simp) _
 have c0:W1.cell? ⟨w.heap.size,0,none⟩=some (.slice L1.a1 nc L1.c1):=k1.cell 0;have d0:W1.cell? ⟨w.heap.size+1,0,none⟩=some (.slice L2.a1 nc L2.c1):=k2.cell 0;go_enter Tryz.func17,Tryz.ntmps17;go_wp2_with (rw[hW1]);refine(HC.out _ B1).mono ?_;rintro e w2 ⟨rfl,hb2⟩;have k12:=k1.step hb2;have k22:=k2.step hb2;have B2:=zA B1 hb2;have c2:w2.cell? ⟨w.heap.size,2,none⟩=some (.slice L1.a3 nx L1.c3):=k12.cell 2;have d2:w2.cell? ⟨w.heap.size+1,2,none⟩=some (.slice L2.a3 nx L2.c3):=k22.cell 2;clear c0 d0 k1 k2 B1 hb2 hW1;go_wp2_with fail;refine(HX.out _ B2).mono ?_;rintro e w3 ⟨rfl,hb3⟩;have k13:=k12.step hb3;have k23:=k22.step hb3;have B3:=zA B2 hb3;have c3:w3.cell? ⟨w.heap.size,3,none⟩=some (.int .i64 pt):=k13.cell 3;have d3:w3.cell? ⟨w.heap.size+1,3,none⟩=some (.int .i64 pt):=k23.cell 3;have c1:w3.cell? ⟨w.heap.size,1,none⟩=some (.slice L1.a2 np L1.c2):=k13.cell 1;have d1:w3.cell? ⟨w.heap.size+1,1,none⟩=some (.slice L2.a2 np L2.c2):=k23.cell 1;clear c2 d2 k12 k22 B2 hb3;go_wp2_with fail;clear c3 d3;have Hd:=zD (zbJ c1 d1);clear c1 d1;go_loopw [5] (fun i wr=>∃k:Nat,k≤np∧i = .int .i64 k∧Below w3.heap.size w3 wr) (fun i _=>np-(intOf i).toNat)
 case atStart=>exact⟨0,by omega,rfl,zJ _ _⟩
 case round=>
  obtain⟨k,hk,rfl,hB⟩:=hrel;have c1:=(hB.cell (zI Hd.out.1)).trans Hd.out.1;have d1:=(hB.cell (zI Hd.out.2)).trans Hd.out.2;by_cases hlt:k<np
  ·have hl4:(k:Int)<(np:Int):=by omega
   have BB:=zA B3 hB;obtain⟨g1,o1,p,y,e1,hp,hy,hr1,hP⟩:=(H1.out.step BB).part_at (k:=k) (by have:=Hnp.out;omega);obtain⟨g2,o2,p',z,e2,hp',hz,hr2,hQ⟩:=(H2.out.step BB).part_at (k:=k) (by have:=Hnp.out;omega);rw[hp]at hp';cases hp';have hcc:=Hc.out p (yL hp);have HS:=fun(W:World) (hW:Below wr.heap.size wr W)=>rsamePart14 p y z W (hP.step hW) (hQ.step hW) hcc.1 hcc.2;rw[e1]at c1;rw[e2]at d1;unfold PV at HS;have hi16:some 16=some (yG p y).length:=rfl;have hj16:some 16=some (yG p z).length:=rfl;obtain⟨P1,hP1⟩:∃v,yG p y=v:=⟨_,rfl⟩;obtain⟨P2,hP2⟩:∃v,yG p z=v:=⟨_,rfl⟩;rw[hP1]at HS hr1 hi16;rw[hP2]at HS hr2 hj16;have HS2:=zD HS;have HI:=zD hi16;have HJ:=zD hj16;have hrp:=fun(W:World) (hW:Below wr.heap.size wr W)=>yU hr1 hW;have hrq:=fun(W:World) (hW:Below wr.heap.size wr W)=>yU hr2 hW;have hCS:Cells wr [(⟨w.heap.size,1,none⟩,.slice (some ⟨g1,o1,none⟩) np L1.c2),(⟨w.heap.size+1,1,none⟩,.slice (some ⟨g2,o2,none⟩) np L2.c2)]:=⟨c1,d1,yJ⟩;have hS0:=Keeps.start hCS;clear HS hP1 hP2 hi16 hj16 hp hy hz hP hQ hcc hr1 hr2 e1 e2 BB;go_wp2_with fail;refine zpD 12 0 [(U,[U,U,U,U]),(U,[zoZ,zoZ,zoZ,zoZ,U]),(U,[zoZ,zoZ,zoZ,zoZ,zoZ,U,U,U,U]),(U,[zoZ,zoZ,zoZ,zoZ,zoZ,zoZ,zoZ,zoZ,zoZ,U]),(zoZ,[zoZ,zoZ,zoZ,zoZ,zoZ,zoZ,zoZ,zoZ,zoZ,zoZ,U]),(U,[zoZ,zoZ,zoZ,zoZ,zoZ,zoZ,zoZ,zoZ,zoZ,zoZ,zoZ,U])] (Keeps wr [(⟨w.heap.size,1,none⟩,.slice (some ⟨g1,o1,none⟩) np L1.c2),(⟨w.heap.size+1,1,none⟩,.slice (some ⟨g2,o2,none⟩) np L2.c2)]) (by kernel_rfl) (hS0) (fun Y Q4 F4 hY hF=> ?_);simp only[zpB]
   repeat
    apply zE (by rw[hY];rfl)
    ·intro w2 hS2;(try simp only[Keeps,Cells]at hS2);go_simp;with_reducible rfl
    simp only[zpA]
   repeat
    first
     | (apply zE (by rw[hY];rfl)
        ·intro w2 hS2;exact zeC 83 (.tmp 46) (by rfl) g1 (o1+k*16) (by rfl) P1 (hrp w2 hS2.1) _ Tryz.underlying83 rfl (info_P.trans HI.out)
        simp only[zpA])
     | (apply zE (by rw[hY];rfl)
        ·intro w2 hS2;exact zeC 83 (.tmp 51) (by rfl) g2 (o2+k*16) (by rfl) P2 (hrq w2 hS2.1) _ Tryz.underlying83 rfl (info_P.trans HJ.out)
        simp only[zpA])
     | (apply zE (by rw[hY];rfl)
        ·intro w2 hS2;(try simp only[Keeps,Cells]at hS2);go_simp;with_reducible rfl
        simp only[zpA])
   apply zS (by rw[hY];rfl)
   ·go_simp;with_reducible exact⟨rfl,rfl⟩
   refine(HS2.out _ hS0.1).mono ?_;rintro e w6 ⟨rfl,hb6⟩;have hk6:=hS0.step hb6;refine⟨_,rfl,hk6,?_⟩;simp only[zpA]
   repeat
    apply zE (by rw[hY];rfl)
    ·intro w2 hS2;(try simp only[Keeps,Cells]at hS2);go_simp;with_reducible rfl
    simp only[zpA]
   refine zV (hF.out _ _ (fun K hK=> ?_));clear hF hY;have B7:=zA hB hk6.1;go_wp2_with fail;refine OnlyK.mk (hK.out _ _ ?_);clear hK;go_wp2;go_roundw
   case rel=>exact⟨k+1,by omega,by go_num,B7⟩
   case measure=>simp[intOf];omega
  ·obtain rfl:k=np:=by omega
   go_wp2;go_returns;exact⟨rfl,zA B3 hB⟩
