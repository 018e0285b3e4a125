/- A part of the proof of L14n. No condition. -/
import Derived.Great.BuildSlice
import Derived.Test.YtieeogndnhighaaGreatZL14nbn
set_option linter.all false
set_option maxRecDepth 100000
set_option maxHeartbeats 2000000
namespace Go.Proofs.YtieeogndnhighaaGreat
open Go.RowKit
theorem zfX(c:S14.C)(w:World):Calls Tryz.prog 171 #[CV c] w fun e w'=>e = .returned (PV S14.P0 zbC)∧Below w.heap.size w w':=by
 obtain⟨W1,hW1⟩:∃W1,(w.alloc (.cells (zT c).toArray 115)).alloc (.cells zP 83)=W1:=⟨_,rfl⟩;have k2:Blk W1 (w.heap.size+1) (yG S14.P0 zbC) 83:=by
  rw[←hW1];have h:=zeE (w.alloc (.cells (zT c).toArray 115));rwa[yA]at h
 have B1:Below w.heap.size w W1:=by rw[←hW1];exact((zG _ _).alloc (zE _) _).alloc (by simp) _
 have hPl:some 16=some (yG S14.P0 zbC).length:=rfl;unfold CV;go_enter Tryz.func171,Tryz.ntmps171;go_wp2_with (first
  | (refine yU 83 zP zbS (by rfl) (by rfl) ?_;rw[hW1])
  | (refine yE 83 (.tmp 2) (.tmp 3) (by rfl) (by rfl) (w.heap.size+1) (by rfl) (yG S14.P0 zbC) (by rfl) _ 83 k2 (info_P.trans hPl) rfl (zaE _ _) ?_;intro wL EL gL sL))
 have hL:=run_loadVar_mid wL _ 0 _ _ _ EL.cells Tryz.underlying83 rfl (info_P.trans hPl);refine bodyPost_ret (v:=PV S14.P0 zbC) ?_ rfl ?_
 ·exact zaB (show Tryz.f171.results = #[.cell 2 83]from rfl) (p:=⟨w.heap.size+1,0,none⟩) rfl hL
 ·exact⟨rfl,B1.trans (yB gL (by omega) B1.size)⟩
theorem zlX(N:S14.N)(L:NLay)(k:Nat)(c:S14.C)(b:Value)(hb:b.oneCell'=true)(bit:Int)(w:World)(hN:NIs N L w)(hk:k<N.parts.length)(p:S14.P)(y:Lay)(hp:N.parts[k]? = some p)(hy:L.ys[k]? = some y) :
 Calls Tryz.prog 172 #[CV c,VV N L k b,.int .i64 bit] w fun e w'=>e = .returned (.tuple #[PV p y,.int .i64 0])∧Below w.heap.size w w':=by
 have HP:=zD fun(W:World) (hW:Below w.heap.size w W)=>zgV N L k b hb W (hN.step hW) hk p y hp hy;unfold VV at HP⊢;obtain⟨nc,hnc⟩:∃n,N.comps.length=n:=⟨_,rfl⟩;obtain⟨np,hnp⟩:∃n,N.parts.length=n:=⟨_,rfl⟩;obtain⟨nx,hnx⟩:∃n,N.ctxs.length=n:=⟨_,rfl⟩;obtain⟨pt,hpt⟩:∃n,N.part=n:=⟨_,rfl⟩;rw[hnc,hnp,hnx,hpt]at HP⊢;clear hnc hnp hnx hpt hk hN hp hy hb;have hPl:some 16=some (yG p y).length:=rfl;have h1:=zaE p y;have hPl2:(yG S14.P0 zbC).length=(yG p y).length:=rfl;unfold PV at HP⊢;obtain⟨Q,hQ⟩:∃Q,yG p y=Q:=⟨_,rfl⟩;rw[hQ]at HP hPl hPl2 h1⊢;clear hQ;obtain⟨W1,hW1⟩:∃W1,((w.alloc (.cells (zT c).toArray 115)).alloc (.cells #[.slice L.a1 nc L.c1,.slice L.a2 np L.c2,.slice L.a3 nx L.c3,.int .i64 pt,.int .i64 (k:Int),b] 104)).alloc (.cells zP 83)=W1:=⟨_,rfl⟩;have k1:Blk W1 (w.heap.size+1) [.slice L.a1 nc L.c1,.slice L.a2 np L.c2,.slice L.a3 nx L.c3,.int .i64 pt,.int .i64 (k:Int),b] 104:=by
  rw[←hW1];have h:=(Blk.new (w.alloc (.cells (zT c).toArray 115)) [.slice L.a1 nc L.c1,.slice L.a2 np L.c2,.slice L.a3 nx L.c3,.int .i64 pt,.int .i64 (k:Int),b] 104).alloc (.cells zP 83);rwa[yA]at h
 have k2:Blk W1 (w.heap.size+1+1) (yG S14.P0 zbC) 83:=by
  rw[←hW1];have h:=zeE ((w.alloc (.cells (zT c).toArray 115)).alloc (.cells #[.slice L.a1 nc L.c1,.slice L.a2 np L.c2,.slice L.a3 nx L.c3,.int .i64 pt,.int .i64 (k:Int),b] 104));rwa[yA,yA]at h
 have B1:Below w.heap.size w W1:=by rw[←hW1];exact(((zG _ _).alloc (zE _) _).alloc (by simp) _).alloc (by simp;omega) _
 have e0:=k1.cell 0;have e1:=k1.cell 1;have e2:=k1.cell 2;have e3:=k1.cell 3;have e4:=k1.cell 4;have e5:=k1.cell 5;simp only[zrD]at e0 e1 e2 e3 e4 e5;unfold CV;go_enter Tryz.func172,Tryz.ntmps172;go_wp2_with (first
  | (refine yU 83 zP zbS (by rfl) (by rfl) ?_;rw[hW1])
  | fail)
 refine(HP.out _ B1).mono ?_;rintro e w2 ⟨rfl,hb2⟩;have k22:=k2.step hb2;have B2:=zA B1 hb2;go_wp2_with (first
  | (refine yE 83 (.tmp 6) (.tmp 9) (by rfl) (by rfl) (w.heap.size+1+1) (by rfl) Q (by rfl) _ 83 k22 (info_P.trans hPl) hPl2 h1 ?_;intro wL EL gL sL))
 have hL:=run_loadVar_mid wL _ 0 _ _ _ EL.cells Tryz.underlying83 rfl (info_P.trans hPl);refine bodyPost_ret (v:=.tuple #[.agg Q.toArray,.int .i64 0]) ?_ rfl ?_
 ·exact zaX (show Tryz.f172.results = #[.cell 6 83,.tmp 7]from rfl) (p:=⟨w.heap.size+1+1,0,none⟩) rfl rfl hL
 ·exact⟨rfl,B2.trans (yB gL (by omega) B2.size)⟩
theorem zgP(c:S14.C)(w:World):Calls Tryz.prog 256 #[CV c] w fun e w'=>e = .returned (PV S14.P0 zbC)∧Below w.heap.size w w':=by
 obtain⟨W1,hW1⟩:∃W1,(w.alloc (.cells (zT c).toArray 119)).alloc (.cells zP 83)=W1:=⟨_,rfl⟩;have k2:Blk W1 (w.heap.size+1) (yG S14.P0 zbC) 83:=by
  rw[←hW1];have h:=zeE (w.alloc (.cells (zT c).toArray 119));rwa[yA]at h
 have B1:Below w.heap.size w W1:=by rw[←hW1];exact((zG _ _).alloc (zE _) _).alloc (by simp) _
 have hPl:some 16=some (yG S14.P0 zbC).length:=rfl;unfold CV;go_enter Tryz.func256,Tryz.ntmps256;go_wp2_with (first
  | (refine yU 83 zP zbS (by rfl) (by rfl) ?_;rw[hW1])
  | (refine yE 83 (.tmp 2) (.tmp 3) (by rfl) (by rfl) (w.heap.size+1) (by rfl) (yG S14.P0 zbC) (by rfl) _ 83 k2 (info_P.trans hPl) rfl (zaE _ _) ?_;intro wL EL gL sL))
 have hL:=run_loadVar_mid wL _ 0 _ _ _ EL.cells Tryz.underlying83 rfl (info_P.trans hPl);refine bodyPost_ret (v:=PV S14.P0 zbC) ?_ rfl ?_
 ·exact zaB (show Tryz.f256.results = #[.cell 2 83]from rfl) (p:=⟨w.heap.size+1,0,none⟩) rfl hL
 ·exact⟨rfl,B1.trans (yB gL (by omega) B1.size)⟩
theorem znZ(N:S14.N)(L:NLay)(k:Nat)(c:S14.C)(b:Value)(hb:b.oneCell'=true)(bit:Int)(w:World)(hN:NIs N L w)(hk:k<N.parts.length)(p:S14.P)(y:Lay)(hp:N.parts[k]? = some p)(hy:L.ys[k]? = some y) :
 Calls Tryz.prog 257 #[CV c,VV N L k b,.int .i64 bit] w fun e w'=>e = .returned (.tuple #[PV p y,.int .i64 0])∧Below w.heap.size w w':=by
 have HP:=zD fun(W:World) (hW:Below w.heap.size w W)=>zgV N L k b hb W (hN.step hW) hk p y hp hy;unfold VV at HP⊢;obtain⟨nc,hnc⟩:∃n,N.comps.length=n:=⟨_,rfl⟩;obtain⟨np,hnp⟩:∃n,N.parts.length=n:=⟨_,rfl⟩;obtain⟨nx,hnx⟩:∃n,N.ctxs.length=n:=⟨_,rfl⟩;obtain⟨pt,hpt⟩:∃n,N.part=n:=⟨_,rfl⟩;rw[hnc,hnp,hnx,hpt]at HP⊢;clear hnc hnp hnx hpt hk hN hp hy hb;have hPl:some 16=some (yG p y).length:=rfl;have h1:=zaE p y;have hPl2:(yG S14.P0 zbC).length=(yG p y).length:=rfl;unfold PV at HP⊢;obtain⟨Q,hQ⟩:∃Q,yG p y=Q:=⟨_,rfl⟩;rw[hQ]at HP hPl hPl2 h1⊢;clear hQ;obtain⟨W1,hW1⟩:∃W1,((w.alloc (.cells (zT c).toArray 119)).alloc (.cells #[.slice L.a1 nc L.c1,.slice L.a2 np L.c2,.slice L.a3 nx L.c3,.int .i64 pt,.int .i64 (k:Int),b] 104)).alloc (.cells zP 83)=W1:=⟨_,rfl⟩;have k1:Blk W1 (w.heap.size+1) [.slice L.a1 nc L.c1,.slice L.a2 np L.c2,.slice L.a3 nx L.c3,.int .i64 pt,.int .i64 (k:Int),b] 104:=by
  rw[←hW1];have h:=(Blk.new (w.alloc (.cells (zT c).toArray 119)) [.slice L.a1 nc L.c1,.slice L.a2 np L.c2,.slice L.a3 nx L.c3,.int .i64 pt,.int .i64 (k:Int),b] 104).alloc (.cells zP 83);rwa[yA]at h
 have k2:Blk W1 (w.heap.size+1+1) (yG S14.P0 zbC) 83:=by
  rw[←hW1];have h:=zeE ((w.alloc (.cells (zT c).toArray 119)).alloc (.cells #[.slice L.a1 nc L.c1,.slice L.a2 np L.c2,.slice L.a3 nx L.c3,.int .i64 pt,.int .i64 (k:Int),b] 104));rwa[yA,yA]at h
 have B1:Below w.heap.size w W1:=by rw[←hW1];exact(((zG _ _).alloc (zE _) _).alloc (by simp) _).alloc (by simp;omega) _
 have e0:=k1.cell 0;have e1:=k1.cell 1;have e2:=k1.cell 2;have e3:=k1.cell 3;have e4:=k1.cell 4;have e5:=k1.cell 5;simp only[zrD]at e0 e1 e2 e3 e4 e5;unfold CV;go_enter Tryz.func257,Tryz.ntmps257;go_wp2_with (first
  | (refine yU 83 zP zbS (by rfl) (by rfl) ?_;rw[hW1])
  | fail)
 refine(HP.out _ B1).mono ?_;rintro e w2 ⟨rfl,hb2⟩;have k22:=k2.step hb2;have B2:=zA B1 hb2;go_wp2_with (first
  | (refine yE 83 (.tmp 6) (.tmp 9) (by rfl) (by rfl) (w.heap.size+1+1) (by rfl) Q (by rfl) _ 83 k22 (info_P.trans hPl) hPl2 h1 ?_;intro wL EL gL sL))
 have hL:=run_loadVar_mid wL _ 0 _ _ _ EL.cells Tryz.underlying83 rfl (info_P.trans hPl);refine bodyPost_ret (v:=.tuple #[.agg Q.toArray,.int .i64 0]) ?_ rfl ?_
 ·exact zaX (show Tryz.f257.results = #[.cell 6 83,.tmp 7]from rfl) (p:=⟨w.heap.size+1+1,0,none⟩) rfl rfl hL
 ·exact⟨rfl,B2.trans (yB gL (by omega) B2.size)⟩
theorem const14_out(c:S14.C)(N:S14.N)(L:NLay)(k:Nat)(b:Value)(w:World) :
 Calls Tryz.prog 174 #[CV c,VV N L k b] w fun e w'=>e = .returned (.int .i64 (S06.stretch c.limit))∧Below w.heap.size w w':=by
 have HS:=zD fun W=>ziI c.limit W;unfold CV zT VV;obtain⟨kind,bits,limit,rate,first,second⟩:=c;simp only at HS⊢;go_enter Tryz.func174,Tryz.ntmps174;go_wp2_with fail;refine(HS.out _).mono ?_;rintro e w2 ⟨rfl,hb2⟩;have B2:Below w.heap.size w w2:=zA (by go_grown) hb2;go_wp2;go_returns;exact⟨rfl,B2⟩
theorem zfZ(x:Int):IntKind.i64.wrap x=(x+9223372036854775808)%18446744073709551616-9223372036854775808:=by
 simp only[IntKind.wrap,IntKind.bits,IntKind.signed];simp;omega
theorem sum3_zero(a b c:Nat)(h1:a≤4611686018427387904)(h2:b≤4611686018427387904)(h3:c≤4611686018427387904):(IntKind.i64.wrap (IntKind.i64.wrap ((a:Int)+(b:Int))+(c:Int))==0)=decide (a+b+c=0):=by
 rw[zfZ,zfZ];by_cases h:a+b+c=0
 ·have ha:a=0:=by omega
  have hb:b=0:=by omega
  have hc:c=0:=by omega
  subst ha hb hc
  decide
 ·rw[zL h,beq_eq_false_iff_ne];intro e;omega
theorem zqJ(m:S12.M)(p:Pl)(w:World)(h1:m.heads.length≤4611686018427387904)(h2:m.bytes.length≤4611686018427387904)(h3:m.ctrs.length≤4611686018427387904):Calls Tryz.prog 182 #[MV m p] w fun e w'=>e = .returned (.bool (S14.noM m))∧Below w.heap.size w w':=by
 obtain⟨bits,least,heads,bytes,at_,len,part,bit,ctrs⟩:=m;obtain⟨R,hR⟩:∃R,S14.noM ⟨bits,least,heads,bytes,at_,len,part,bit,ctrs⟩=R:=⟨_,rfl⟩;rw[hR];unfold S14.noM at hR;unfold MV zbQ;simp only at hR h1 h2 h3⊢;obtain⟨lh,hlh⟩:∃n,heads.length=n:=⟨_,rfl⟩;obtain⟨lb,hlb⟩:∃n,bytes.length=n:=⟨_,rfl⟩;obtain⟨lc,hlc⟩:∃n,ctrs.length=n:=⟨_,rfl⟩;rw[hlh,hlb,hlc]at hR;rw[hlh]at h1;rw[hlb]at h2;rw[hlc]at h3;rw[hlh,hlb,hlc];clear hlh hlb hlc;by_cases c1:bits=0
 ·have e1:(bits==0)=true:=by simp[c1]
  by_cases c2:least=0
  ·have e2:(least==0)=true:=by simp[c2]
   by_cases c3:at_=0
   ·have e3:(at_==0)=true:=by simp[c3]
    by_cases c4:len=0
    ·have e4:(len==0)=true:=by simp[c4]
     by_cases c5:part=0
     ·have e5:(part==0)=true:=by simp[c5]
      by_cases c6:bit=0
      ·have e6:(bit==0)=true:=by simp[c6]
       have e7:=sum3_zero lh lb lc h1 h2 h3;have hr:decide (lh+lb+lc=0)=R:=by rw[←hR];simp only[e1,e2,e3,e4,e5,e6,zbE]
       rw[hr]at e7;have E7:=zD e7;clear hR c1 c2 c3 c4 c5 c6 e7 hr;go_enter Tryz.func182,Tryz.ntmps182;go_wp2;go_returns;exact⟨yZ (by have h:=E7.out;rw[zfZ,zfZ]at h;unfold wrap64;exact h),by go_grown⟩
      ·obtain rfl:R=false:=by rw[←hR];simp[c6]
       clear hR;have e6:(bit==0)=false:=by simp[c6]
       go_enter Tryz.func182,Tryz.ntmps182;go_wp2;go_returns;exact⟨rfl,by go_grown⟩
     ·obtain rfl:R=false:=by rw[←hR];simp[c5]
      clear hR;have e5:(part==0)=false:=by simp[c5]
      go_enter Tryz.func182,Tryz.ntmps182;go_wp2;go_returns;exact⟨rfl,by go_grown⟩
    ·obtain rfl:R=false:=by rw[←hR];simp[c4]
     clear hR;have e4:(len==0)=false:=by simp[c4]
     go_enter Tryz.func182,Tryz.ntmps182;go_wp2;go_returns;exact⟨rfl,by go_grown⟩
   ·obtain rfl:R=false:=by rw[←hR];simp[c3]
    clear hR;have e3:(at_==0)=false:=by simp[c3]
    go_enter Tryz.func182,Tryz.ntmps182;go_wp2;go_returns;exact⟨rfl,by go_grown⟩
  ·obtain rfl:R=false:=by rw[←hR];simp[c2]
   clear hR;have e2:(least==0)=false:=by simp[c2]
   go_enter Tryz.func182,Tryz.ntmps182;go_wp2;go_returns;exact⟨rfl,by go_grown⟩
 ·obtain rfl:R=false:=by rw[←hR];simp[c1]
  clear hR;have e1:(bits==0)=false:=by simp[c1]
  go_enter Tryz.func182,Tryz.ntmps182;go_wp2;go_returns;exact⟨rfl,by go_grown⟩
theorem zdH(p:S14.P)(y:Lay)(w:World)(hm1:p.m.heads.length≤4611686018427387904)(hm2:p.m.bytes.length≤4611686018427387904)(hm3:p.m.ctrs.length≤4611686018427387904) :
 Calls Tryz.prog 178 #[PV p y] w fun e w'=>e = .returned (.bool (S14.bare p))∧Below w.heap.size w w':=by
 have HM:=zD fun W=>zqJ p.m y.pl W hm1 hm2 hm3;obtain⟨R,hR⟩:∃R,S14.bare p=R:=⟨_,rfl⟩;rw[hR];unfold S14.bare at hR;obtain⟨nm,hnm⟩:∃b,S14.noM p.m=b:=⟨_,rfl⟩;rw[hnm]at hR HM;unfold PV yG;unfold MV zbQ at HM;obtain⟨ctrs,sb,sd,slot,m,mi,mw,ac⟩:=p;obtain⟨a1,c1,a2,c2,pl,a3,c3,a4,c4⟩:=y;obtain⟨bits,least,heads,bytes,at_,len,part,bit,mctrs⟩:=m;simp only at hR HM⊢;clear hm1 hm2 hm3 hnm;obtain⟨l1,h1⟩:∃n,ctrs.length=n:=⟨_,rfl⟩;obtain⟨l2,h2⟩:∃n,sd.length=n:=⟨_,rfl⟩;obtain⟨l3,h3⟩:∃n,mw.length=n:=⟨_,rfl⟩;obtain⟨l4,h4⟩:∃n,ac.length=n:=⟨_,rfl⟩;rw[h1,h2,h3,h4]at hR;rw[h1,h2,h3,h4];clear h1 h2 h3 h4;have B0:Below w.heap.size w (w.alloc (Obj.cells #[.slice a1 l1 c1,.int .i64 sb,.slice a2 l2 c2,.int .i64 slot,.int .i64 bits,.int .i64 least,.slice pl.ah heads.length pl.ch,.slice pl.ab bytes.length pl.cb,.int .i64 at_,.int .i64 len,.int .i64 part,.int .i64 bit,.slice pl.ac mctrs.length pl.cc,.int .i64 mi,.slice a3 l3 c3,.slice a4 l4 c4] 83)):=(zG _ _).alloc (zE _) _;have k0:=Blk.new w [.slice a1 l1 c1,.int .i64 sb,.slice a2 l2 c2,.int .i64 slot,.int .i64 bits,.int .i64 least,.slice pl.ah heads.length pl.ch,.slice pl.ab bytes.length pl.cb,.int .i64 at_,.int .i64 len,.int .i64 part,.int .i64 bit,.slice pl.ac mctrs.length pl.cc,.int .i64 mi,.slice a3 l3 c3,.slice a4 l4 c4] 83;obtain⟨W1,hW1⟩:∃W1,w.alloc (Obj.cells #[.slice a1 l1 c1,.int .i64 sb,.slice a2 l2 c2,.int .i64 slot,.int .i64 bits,.int .i64 least,.slice pl.ah heads.length pl.ch,.slice pl.ab bytes.length pl.cb,.int .i64 at_,.int .i64 len,.int .i64 part,.int .i64 bit,.slice pl.ac mctrs.length pl.cc,.int .i64 mi,.slice a3 l3 c3,.slice a4 l4 c4] 83)=W1:=⟨_,rfl⟩;rw[show(#[.slice a1 l1 c1,.int .i64 sb,.slice a2 l2 c2,.int .i64 slot,.int .i64 bits,.int .i64 least,.slice pl.ah heads.length pl.ch,.slice pl.ab bytes.length pl.cb,.int .i64 at_,.int .i64 len,.int .i64 part,.int .i64 bit,.slice pl.ac mctrs.length pl.cc,.int .i64 mi,.slice a3 l3 c3,.slice a4 l4 c4]:Array Value) = [.slice a1 l1 c1,.int .i64 sb,.slice a2 l2 c2,.int .i64 slot,.int .i64 bits,.int .i64 least,.slice pl.ah heads.length pl.ch,.slice pl.ab bytes.length pl.cb,.int .i64 at_,.int .i64 len,.int .i64 part,.int .i64 bit,.slice pl.ac mctrs.length pl.cc,.int .i64 mi,.slice a3 l3 c3,.slice a4 l4 c4].toArray from rfl]at hW1 B0;rw[hW1]at k0 B0;have q0:=k0.cell 0;have q1:=k0.cell 1;have q2:=k0.cell 2;have q3:=k0.cell 3;have q4:=k0.cell 4;have q5:=k0.cell 5;have q6:=k0.cell 6;have q7:=k0.cell 7;have q8:=k0.cell 8;have q9:=k0.cell 9;have q10:=k0.cell 10;have q11:=k0.cell 11;have q12:=k0.cell 12;have q13:=k0.cell 13;have q14:=k0.cell 14;have q15:=k0.cell 15;simp only[zrD]at q0 q1 q2 q3 q4 q5 q6 q7 q8 q9 q10 q11 q12 q13 q14 q15;clear k0;by_cases d0:l1=0
 ·have e0:((l1:Int)==0)=true:=by simp[d0]
  by_cases d1:sb=0
  ·have e1:(sb==0)=true:=by simp[d1]
   by_cases d2:l2=0
   ·have e2:((l2:Int)==0)=true:=by simp[d2]
    by_cases d3:slot=0
    ·have e3:(slot==0)=true:=by simp[d3]
     cases nm with
     | true=>
       by_cases d5:mi=0
       ·have e5:(mi==0)=true:=by simp[d5]
        by_cases d6:l3=0
        ·have e6:((l3:Int)==0)=true:=by simp[d6]
         by_cases d7:l4=0
         ·have e7:((l4:Int)==0)=true:=by simp[d7]
          obtain rfl:R=true:=by rw[←hR];simp[*]
          clear hR d0 d1 d2 d3 d5 d6 d7;go_enter Tryz.func178,Tryz.ntmps178;go_wp2_with (rw[hW1]);refine(HM.out _).mono ?_;rintro e w2 ⟨rfl,hb2⟩;have B2:=zA B0 hb2;have p13:=(hb2.cell (zJ q13)).trans q13;have p14:=(hb2.cell (zJ q14)).trans q14;have p15:=(hb2.cell (zJ q15)).trans q15;go_wp2;go_returns;exact⟨rfl,B2⟩
         ·obtain rfl:R=false:=by rw[←hR];simp[d7]
          have e7:((l4:Int)==0)=false:=by simp[d7]
          clear hR d0 d1 d2 d3 d5 d6 d7;go_enter Tryz.func178,Tryz.ntmps178;go_wp2_with (rw[hW1]);refine(HM.out _).mono ?_;rintro e w2 ⟨rfl,hb2⟩;have B2:=zA B0 hb2;have p13:=(hb2.cell (zJ q13)).trans q13;have p14:=(hb2.cell (zJ q14)).trans q14;have p15:=(hb2.cell (zJ q15)).trans q15;go_wp2;go_returns;exact⟨rfl,B2⟩
        ·obtain rfl:R=false:=by rw[←hR];simp[d6]
         have e6:((l3:Int)==0)=false:=by simp[d6]
         clear hR d0 d1 d2 d3 d5 d6;go_enter Tryz.func178,Tryz.ntmps178;go_wp2_with (rw[hW1]);refine(HM.out _).mono ?_;rintro e w2 ⟨rfl,hb2⟩;have B2:=zA B0 hb2;have p13:=(hb2.cell (zJ q13)).trans q13;have p14:=(hb2.cell (zJ q14)).trans q14;have p15:=(hb2.cell (zJ q15)).trans q15;go_wp2;go_returns;exact⟨rfl,B2⟩
       ·obtain rfl:R=false:=by rw[←hR];simp[d5]
        have e5:(mi==0)=false:=by simp[d5]
        clear hR d0 d1 d2 d3 d5;go_enter Tryz.func178,Tryz.ntmps178;go_wp2_with (rw[hW1]);refine(HM.out _).mono ?_;rintro e w2 ⟨rfl,hb2⟩;have B2:=zA B0 hb2;have p13:=(hb2.cell (zJ q13)).trans q13;have p14:=(hb2.cell (zJ q14)).trans q14;have p15:=(hb2.cell (zJ q15)).trans q15;go_wp2;go_returns;exact⟨rfl,B2⟩
     | false=>
       obtain rfl:R=false:=by rw[←hR];simp
       clear hR d0 d1 d2 d3;go_enter Tryz.func178,Tryz.ntmps178;go_wp2_with (rw[hW1]);refine(HM.out _).mono ?_;rintro e w2 ⟨rfl,hb2⟩;have B2:=zA B0 hb2;have p13:=(hb2.cell (zJ q13)).trans q13;have p14:=(hb2.cell (zJ q14)).trans q14;have p15:=(hb2.cell (zJ q15)).trans q15;go_wp2;go_returns;exact⟨rfl,B2⟩
    ·obtain rfl:R=false:=by rw[←hR];simp[d3]
     have e3:(slot==0)=false:=by simp[d3]
     clear hR d0 d1 d2 d3;go_enter Tryz.func178,Tryz.ntmps178;go_wp2_with (rw[hW1]);go_returns;exact⟨rfl,B0⟩
   ·obtain rfl:R=false:=by rw[←hR];simp[d2]
    have e2:((l2:Int)==0)=false:=by simp[d2]
    clear hR d0 d1 d2;go_enter Tryz.func178,Tryz.ntmps178;go_wp2_with (rw[hW1]);go_returns;exact⟨rfl,B0⟩
  ·obtain rfl:R=false:=by rw[←hR];simp[d1]
   have e1:(sb==0)=false:=by simp[d1]
   clear hR d0 d1;go_enter Tryz.func178,Tryz.ntmps178;go_wp2_with (rw[hW1]);go_returns;exact⟨rfl,B0⟩
 ·obtain rfl:R=false:=by rw[←hR];simp[d0]
  have e0:((l1:Int)==0)=false:=by simp[d0]
  clear hR d0;go_enter Tryz.func178,Tryz.ntmps178;go_wp2_with (rw[hW1]);go_returns;exact⟨rfl,B0⟩
theorem zbO(w:World)(c:S14.C)(t:TypeId)(p:S14.P)(y:Lay):∃W1,(w.alloc (.cells (zT c).toArray t)).alloc (.cells (yG p y).toArray 83)=W1∧Blk W1 w.heap.size (zT c) t∧Blk W1 (w.heap.size+1) (yG p y) 83∧Below w.heap.size w W1:=by
 refine⟨_,rfl,(Blk.new w _ _).alloc _,?_,((zG _ _).alloc (zE _) _).alloc (by simp) _⟩;have h:=Blk.new (w.alloc (.cells (zT c).toArray t)) (yG p y) 83;rwa[yA]at h
theorem zfW(c:S14.C)(p:S14.P)(y:Lay)(pt:Int)(w:World)(hP:PIs p y w) :
 Calls Tryz.prog 175 #[CV c,PV p y,.int .i64 pt] w fun e w'=>e = .returned (.bool (S14.bare p))∧Below w.heap.size w w':=by
 have HB:=zD fun W=>zdH p y W hP.mch.lh hP.mch.lb hP.mch.lc;obtain⟨W1,hW1,k1,k2,B1⟩:=zbO w c 115 p y;have hPl:some 16=some (yG p y).length:=rfl;unfold PV at HB⊢;unfold CV;obtain⟨Q,hQ⟩:∃Q,yG p y=Q:=⟨_,rfl⟩;obtain⟨R,hR⟩:∃R,S14.bare p=R:=⟨_,rfl⟩;rw[hQ]at HB k2 hPl hW1⊢;rw[hR]at HB⊢;clear hQ hP hR;go_enter Tryz.func175,Tryz.ntmps175;go_wp2_with (first
  | (rw[hW1])
  | (refine yC 83 (.tmp 4) (by rfl) (by rfl) (w.heap.size+1) (by rfl) Q 83 k2 _ Tryz.underlying83 rfl (info_P.trans hPl) ?_))
 refine(HB.out _).mono ?_;rintro e w2 ⟨rfl,hb2⟩;have B2:=zA B1 hb2;go_wp2;go_returns;exact⟨rfl,B2⟩
theorem zgO(c:S14.C)(p:S14.P)(y:Lay)(pt:Int)(w:World)(hP:PIs p y w) :
 Calls Tryz.prog 260 #[CV c,PV p y,.int .i64 pt] w fun e w'=>e = .returned (.bool (S14.bare p))∧Below w.heap.size w w':=by
 have HB:=zD fun W=>zdH p y W hP.mch.lh hP.mch.lb hP.mch.lc;obtain⟨W1,hW1,k1,k2,B1⟩:=zbO w c 119 p y;have hPl:some 16=some (yG p y).length:=rfl;unfold PV at HB⊢;unfold CV;obtain⟨Q,hQ⟩:∃Q,yG p y=Q:=⟨_,rfl⟩;obtain⟨R,hR⟩:∃R,S14.bare p=R:=⟨_,rfl⟩;rw[hQ]at HB k2 hPl hW1⊢;rw[hR]at HB⊢;clear hQ hP hR;go_enter Tryz.func260,Tryz.ntmps260;go_wp2_with (first
  | (rw[hW1])
  | (refine yC 83 (.tmp 4) (by rfl) (by rfl) (w.heap.size+1) (by rfl) Q 83 k2 _ Tryz.underlying83 rfl (info_P.trans hPl) ?_))
 refine(HB.out _).mono ?_;rintro e w2 ⟨rfl,hb2⟩;have B2:=zA B1 hb2;go_wp2;go_returns;exact⟨rfl,B2⟩
theorem zmH{x l:Int}(h1 : -3071≤x)(h2:x≤3071)(h3:0≤l) : -3071*l≤x*l∧x*l≤3071*l:=
 ⟨Int.mul_le_mul_of_nonneg_right h1 h3,Int.mul_le_mul_of_nonneg_right h2 h3⟩
def S14.avg(c:S14.C)(bef:List Int):Int:=S06.round (bef.getD c.first.toNat 0*c.limit+bef.getD c.second.toNat 0*(256-c.limit)) 256
theorem ziX{bef:List Int}(h:∀x∈bef,-3071≤x∧x≤3071)(i:Nat) : -3071≤bef.getD i 0∧bef.getD i 0≤3071:=by
 rw[zY];cases hh:bef[i]? with
 | none=>simp
 | some x=>exact h x (yN hh)
theorem S14.avg_in{c:S14.C}{bef:List Int}(h:∀x∈bef,-3071≤x∧x≤3071)(hl:0≤c.limit∧c.limit≤256) : -3071≤S14.avg c bef∧S14.avg c bef≤3071:=by
 unfold S14.avg;have h1:=ziX h c.first.toNat;have h2:=ziX h c.second.toNat;have m1:=zmH h1.1 h1.2 hl.1;have m2:=zmH (l:=256-c.limit) h2.1 h2.2 (by omega);generalize bef.getD c.first.toNat 0*c.limit=A at *;generalize bef.getD c.second.toNat 0*(256-c.limit)=B at *;unfold S06.round;split<;>omega
theorem zqW(c:S14.C)(N:S14.N)(L:NLay)(k:Nat)(a:Option Addr)(cb:Nat)(bef:List Int)(w:World)(hb:∀x∈bef,-3071≤x∧x≤3071)(hl:0≤c.limit∧c.limit≤256)(hf:0≤c.first∧c.first<bef.length)(hs:0≤c.second∧c.second<bef.length)(hrd:Rd w a (zaO bef)) :
 Calls Tryz.prog 259 #[CV c,VV N L k (.slice a bef.length cb)] w fun e w'=>e = .returned (.int .i64 (S14.avg c bef))∧Below w.heap.size w w':=by
 obtain⟨kind,bits,limit,rate,first,second⟩:=c;unfold S14.avg;simp only at hl hf hs⊢;obtain⟨f,rfl⟩:=Int.eq_ofNat_of_zero_le hf.1;obtain⟨g,rfl⟩:=Int.eq_ofNat_of_zero_le hs.1;have hff:f<bef.length:=by omega
 have hgg:g<bef.length:=by omega
 simp only[Int.toNat_natCast];obtain⟨bb,o,rfl,hcs⟩:=hrd.at (i:=f) (by rw[yL];exact hff);have cx:=hcs f (by rw[yL];exact hff);have cy:=hcs g (by rw[yL];exact hgg);have ex:(zaO bef)[f]'(by rw[yL];exact hff) = .int .i64 (bef.getD f 0):=by simp[zaO,zY,hff]
 have ey:(zaO bef)[g]'(by rw[yL];exact hgg) = .int .i64 (bef.getD g 0):=by simp[zaO,zY,hgg]
 rw[ex]at cx;rw[ey]at cy;have h1:=ziX hb f;have h2:=ziX hb g;obtain⟨x,hx⟩:∃x,bef.getD f 0=x:=⟨_,rfl⟩;obtain⟨y,hy⟩:∃x,bef.getD g 0=x:=⟨_,rfl⟩;obtain⟨n,hn⟩:∃n,bef.length=n:=⟨_,rfl⟩;rw[hx]at cx h1⊢;rw[hy]at cy h2⊢;rw[hn]at hff hgg⊢;have m1:=zmH h1.1 h1.2 hl.1;have m2:=zmH (l:=256-limit) h2.1 h2.2 (by omega);clear hcs ex ey hx hy hn hb hrd hf hs;have w1:IntKind.i64.wrap (x*limit)=x*limit:=IntWalk.i64_in _ (by omega);have w2:IntKind.i64.wrap (256-limit)=256-limit:=IntWalk.i64_in _ (by omega);have w3:IntKind.i64.wrap (y*(256-limit))=y*(256-limit):=IntWalk.i64_in _ (by omega);have w4:IntKind.i64.wrap (x*limit+y*(256-limit))=x*limit+y*(256-limit):=IntWalk.i64_in _ (by omega);have HR:=zD fun W=>round06_any (x*limit+y*(256-limit)) 256 W (by omega) (by omega) (by omega) (by omega);obtain⟨R,hR⟩:∃R,S06.round (x*limit+y*(256-limit)) 256=R:=⟨_,rfl⟩;rw[hR]at HR⊢;clear hR m1 m2;have hfz:(f:Int)<(n:Int):=by omega
 have hgz:(g:Int)<(n:Int):=by omega
 unfold CV zT VV;simp only;obtain⟨W1,hW1⟩:∃W1,(w.alloc (.cells #[.int .i64 kind,.int .i64 bits,.int .i64 limit,.int .i64 rate,.int .i64 (f:Int),.int .i64 (g:Int)] 119)).alloc (.cells #[.slice L.a1 N.comps.length L.c1,.slice L.a2 N.parts.length L.c2,.slice L.a3 N.ctxs.length L.c3,.int .i64 N.part,.int .i64 (k:Int),.slice (some ⟨bb,o,none⟩) n cb] 104)=W1:=⟨_,rfl⟩;have k1:Blk W1 w.heap.size [.int .i64 kind,.int .i64 bits,.int .i64 limit,.int .i64 rate,.int .i64 (f:Int),.int .i64 (g:Int)] 119:=by rw[←hW1];exact(Blk.new w _ _).alloc _
 have k2:Blk W1 (w.heap.size+1) [.slice L.a1 N.comps.length L.c1,.slice L.a2 N.parts.length L.c2,.slice L.a3 N.ctxs.length L.c3,.int .i64 N.part,.int .i64 (k:Int),.slice (some ⟨bb,o,none⟩) n cb] 104:=by
  rw[←hW1];have h:=Blk.new (w.alloc (.cells #[.int .i64 kind,.int .i64 bits,.int .i64 limit,.int .i64 rate,.int .i64 (f:Int),.int .i64 (g:Int)] 119)) [.slice L.a1 N.comps.length L.c1,.slice L.a2 N.parts.length L.c2,.slice L.a3 N.ctxs.length L.c3,.int .i64 N.part,.int .i64 (k:Int),.slice (some ⟨bb,o,none⟩) n cb] 104;rwa[yA]at h
 have B1:Below w.heap.size w W1:=by rw[←hW1];exact((zG _ _).alloc (zE _) _).alloc (by simp) _
 have cx1:=(B1.cell (zJ cx)).trans cx;have cy1:=(B1.cell (zJ cy)).trans cy;have hCS:Cells W1 [(⟨w.heap.size,2,none⟩,.int .i64 limit),(⟨w.heap.size,4,none⟩,.int .i64 (f:Int)),(⟨w.heap.size,5,none⟩,.int .i64 (g:Int)),(⟨w.heap.size+1,5,none⟩,.slice (some ⟨bb,o,none⟩) n cb),(⟨bb,o+f,none⟩,.int .i64 x),(⟨bb,o+g,none⟩,.int .i64 y)]:=⟨k1.cell 2,k1.cell 4,k1.cell 5,k2.cell 5,cx1,cy1,yJ⟩;go_enter Tryz.func259,Tryz.ntmps259;go_wp2_with (rw[hW1]);refine zrE 25 1 [(U,[U,U,U,U,U,U,U,U,U,U,U,U,U,U,U,U,U,U,U,U,U,U,U,U]),(zrA,[zrA,zrA,zrA,zrA,zrA,zrA,zrA,zrA,zrA,zrA,zrA,zrA,zrA,zrA,zrA,zrA,zrA,zrA,zrA,zrA,zrA,zrA,zrA,zrA,U])] (Keeps W1 [(⟨w.heap.size,2,none⟩,.int .i64 limit),(⟨w.heap.size,4,none⟩,.int .i64 (f:Int)),(⟨w.heap.size,5,none⟩,.int .i64 (g:Int)),(⟨w.heap.size+1,5,none⟩,.slice (some ⟨bb,o,none⟩) n cb),(⟨bb,o+f,none⟩,.int .i64 x),(⟨bb,o+g,none⟩,.int .i64 y)]) (by kernel_rfl) (Keeps.start hCS) (fun Y Q4 F4 hY hF=> ?_);simp only[zrC]
 repeat
  apply zF (by rw[hY];rfl)
  ·intro w2 hS2;(try simp only[Keeps,Cells]at hS2);go_simp;with_reducible rfl
  simp only[zrB]
 apply zS (by rw[hY];rfl)
 ·go_simp;with_reducible exact⟨rfl,rfl⟩
 refine(HR.out _).mono ?_;rintro e w2 ⟨rfl,hb2⟩;have hk2:=(Keeps.start hCS).step hb2;refine⟨_,rfl,hk2,?_⟩;simp only[zrB];refine zZ (hF.out _ _ (fun K hK=> ?_));clear hF hY;have hB2:=zA B1 hk2.1;go_wp2_with fail;refine OnlyK.mk (hK.out _ _ ?_);clear hK hk2;go_wp2;go_returns;exact⟨rfl,hB2⟩
theorem zfR:∀n:Nat,Cts (List.replicate n (32768,0))=S08.fresh n
 | 0=>rfl
 | n+1=>by
   have h:=zfR n;unfold Cts S08.fresh at *;rw[List.replicate_succ,List.replicate_succ,List.flatMap_cons,List.flatten_cons,h]
theorem Rd.keptRow{w w':World}{a:Option Addr}{vals:List Value}{b:Nat}(h:Rd w a vals)(hg:w.grownBy w' (some b))(hne:∀g o,a=some ⟨g,o,none⟩→g≠b):Rd w' a vals:=fun hn=>by
 obtain⟨g,o,rfl,hcs⟩:=h hn;refine⟨g,o,rfl,fun j v hv=> ?_⟩;have hc:=hcs j v hv;have hb:=hg.block g (zJ hc) (fun e=>hne g o rfl (by cases e;rfl));unfold World.cell? at hc⊢;rw[hb];exact hc
theorem zmP(n:Nat)(h1:1≤n)(h2:n≤65536)(w:World):Calls Tryz.prog 190 #[.int .i64 (n:Int)] w fun e w'=>∃a cap,e = .returned (.slice a n cap)∧(∀g o,a=some ⟨g,o,none⟩→w.heap.size≤g)∧Rd w' a (Cts (List.replicate n (32768,0)))∧Below w.heap.size w w':=by
 have HT:=zD (zmQ (n:Int) w (by omega) (by omega));have hl:S08.tableLen (n:Int)=n:=by unfold S08.tableLen;split<;>omega
 rw[hl,←zfR]at HT;go_enter Tryz.func190,Tryz.ntmps190;go_wp2_with fail;refine HT.out.mono ?_;rintro e w1 ⟨a,cap,rfl,hfar,hrd,hb1⟩;have Hrd:=zD hrd;have Hfar:=zD hfar;clear hrd hfar;go_wp2;go_returns;exact⟨a,cap,rfl,Hfar.out,Hrd.out,hb1⟩
def S14.fresh1(n:Nat):S14.P:={S14.P0 with ctrs:=List.replicate n (32768,0)}
theorem PIs.fresh1{n:Nat}{w:World}{a:Option Addr}{cap:Nat}(h:Rd w a (Cts (List.replicate n (32768,0)))):PIs (S14.fresh1 n) {zbC with a1:=a,c1:=cap} w:=
 ⟨h,(PIs.zero w).tab,(PIs.zero w).mch,(PIs.zero w).mix,(PIs.zero w).apm⟩
theorem zhM(c:S14.C)(n P:Nat)(hn:n≤16)(hb:c.bits=n)(hP:2^n=P)(w:World):Calls Tryz.prog 184 #[CV c] w fun e w'=>∃y,e = .returned (PV (S14.fresh1 P) y)∧PRob 0 w.heap.size (S14.fresh1 P) y w'∧Below w.heap.size w w':=by
 have hp:=zdP hn;rw[hP]at hp;have HS:=zD fun W=>zdE c n P hn hb hP W;have HT:=zD fun W=>zmP P hp.1 hp.2 W;obtain⟨W1,hW1⟩:∃W1,(w.alloc (.cells (zT c).toArray 116)).alloc (.cells zP 83)=W1:=⟨_,rfl⟩;have k1:Blk W1 w.heap.size (zT c) 116:=by rw[←hW1];exact(Blk.new w _ _).alloc _
 have k2:Blk W1 (w.heap.size+1) (yG S14.P0 zbC) 83:=by
  rw[←hW1];have h:=zeE (w.alloc (.cells (zT c).toArray 116));rwa[yA]at h
 have B1:Below w.heap.size w W1:=by rw[←hW1];exact((zG _ _).alloc (zE _) _).alloc (by simp) _
 obtain⟨kind,bits,limit,rate,first,second⟩:=c;unfold CV zT at *;simp only at *;have Hb:=zD hb;clear hb hp;have q0:=k1.cell 0;have q1:=k1.cell 1;have q2:=k1.cell 2;have q3:=k1.cell 3;have q4:=k1.cell 4;have q5:=k1.cell 5;simp only[zrD]at q0 q1 q2 q3 q4 q5;go_enter Tryz.func184,Tryz.ntmps184;go_wp2_with (first
  | (refine yU 83 zP zbS (by rfl) (by rfl) ?_;rw[hW1])
  | fail)
 refine(HS.out _).mono ?_;rintro e w2 ⟨rfl,hb2⟩;go_wp2_with fail;refine(HT.out _).mono ?_;rintro e w3 ⟨a,cap,rfl,hfar,hrd,hb3⟩;have hb13:Below W1.heap.size W1 w3:=zA hb2 hb3;have k23:=k2.step hb13;have B3:=zA B1 hb13;have hone:∀v∈yG (S14.fresh1 P) {zbC with a1:=a,c1:=cap},v.oneCell'=true:=zaE _ _;have hval:yG (S14.fresh1 P) {zbC with a1:=a,c1:=cap} = .slice a P cap::(yG S14.P0 zbC).tail:=by
  unfold yG S14.fresh1;simp only[yR];rfl
 rw[hval]at hone;have Hrd:=zD hrd;have hk2:=k2.lt;have Hfar2:=zD (fun g o e=>by have:=hfar g o e;have:=hb2.size;have:=B1.size;exact .inr (by omega):∀g o,a=some ⟨g,o,none⟩→g<0∨w.heap.size≤g);have Hfar:=zD (fun g o e=>by have:=hfar g o e;have:=hb2.size;omega:∀g o,a=some ⟨g,o,none⟩→g≠w.heap.size+1);clear hrd hfar;go_wp2_with (first
  | (refine yE 83 (.tmp 2) (.tmp 7) (by rfl) (by rfl) (w.heap.size+1) (by rfl) (.slice a P cap::(yG S14.P0 zbC).tail) (by rfl) _ 83 k23 (info_P.trans rfl) rfl hone ?_;intro wL EL gL sL))
 have hL:=run_loadVar_mid wL _ 0 _ _ _ EL.cells Tryz.underlying83 rfl (info_P.trans rfl);refine bodyPost_ret (v:=.agg (.slice a P cap::(yG S14.P0 zbC).tail).toArray) ?_ rfl ?_
 ·exact zaB (show Tryz.f184.results = #[.cell 2 83]from rfl) (p:=⟨w.heap.size+1,0,none⟩) rfl hL
 ·refine⟨{zbC with a1:=a,c1:=cap},?_,fun w' hk=>PIs.fresh1 (Rd.kept ?_ hk Hfar2.out),B3.trans (yB gL (by omega) B3.size)⟩
  ·unfold PV;rw[hval]
  ·exact Hrd.out.keptRow gL Hfar.out
theorem field_P0(v:Value)(tl:List Value)(w:World):(Instr.field 83 (.agg (v::tl).toArray) 0).run Tryz.prog w = .ok v w:=by
 unfold Instr.field part;simp[run_underlying Tryz.underlying83,asAgg,go_sem]
theorem Cts_ix{xs:List (Int×Int)}{k:Nat}(h:k<xs.length):(Cts xs)[k*2]? = some (.int .i64 (xs.getD k (0,0)).1)∧(Cts xs)[k*2+1]? = some (.int .i64 (xs.getD k (0,0)).2):=by
 have:=zgR h;rw[zY,zI h];exact this
theorem Cts_set:∀(xs:List (Int×Int)) (k:Nat) (x:Int×Int),Cts (xs.set k x)=((Cts xs).set (k*2) (.int .i64 x.1)).set (k*2+1) (.int .i64 x.2)
 | [],k,x=>by simp[Cts]
 | c::xs,0,x=>by simp[Cts]
 | c::xs,k+1,x=>by
   have h:=Cts_set xs k x
   have e:∀l:List Value,(((Value.int .i64 c.1::Value.int .i64 c.2::l).set ((k+1)*2) (.int .i64 x.1)).set ((k+1)*2+1) (.int .i64 x.2))=Value.int .i64 c.1::Value.int .i64 c.2::(l.set (k*2) (.int .i64 x.1)).set (k*2+1) (.int .i64 x.2):=fun l=>by
    rw[show(k+1)*2=k*2+1+1 by omega];rfl
   show Value.int .i64 c.1::Value.int .i64 c.2::Cts (xs.set k x)=_;rw[h];exact(e (Cts xs)).symm
theorem direct14_out(c:S14.C)(N:S14.N)(L:NLay)(k:Nat)(b:Value)(hb:b.oneCell'=true)(p:S14.P)(y:Lay)(n:Nat)(w:World)(hN:NIs N L w)(hc:N.comps[k]? = some c)(hp:N.parts[k]? = some p)(hy:L.ys[k]? = some y)(hx:k<N.ctxs.length)(pt:Nat)(hpt:N.part=(pt:Int))(hpt2:pt<4294967296)
 (hn:c.bits=(n:Int)) (hn2:n≤16) (hl:p.ctrs.length=2^n) :
 Calls Tryz.prog 187 #[CV c,VV N L k b] w fun e w'=>e = .returned (.int .i64 (S14.probe p (S14.index (N.ctxs.getD k 0) pt n)))∧Below w.heap.size w w':=by
 have hk:k<N.parts.length:=(List.getElem?_eq_some_iff.1 hp).1;have hP:=hN.ps k p y hp hy;have hil:=S14.index_lt (N.ctxs.getD k 0) pt hn2;rw[←hl]at hil;obtain⟨g,o,hga,hcs⟩:=hP.rc (fun e=>by have h1:=yQ List.length e;rw[zcB]at h1;simp at h1;omega);have HPt:=zD fun(W:World) (hW:Below w.heap.size w W)=>zgV N L k b hb W (hN.step hW) hk p y hp hy;have HIx:=zD fun(W:World) (hW:Below w.heap.size w W)=>znP N L k b W (hN.step hW) hx pt hpt hpt2 c hc n hn hn2;obtain⟨i,hi⟩:∃i,S14.index (N.ctxs.getD k 0) pt n=i:=⟨_,rfl⟩;rw[hi]at hil HIx⊢;obtain⟨h0,h1⟩:=Cts_ix hil;have c0:=hcs _ _ h0;have c1:=hcs _ _ h1;unfold S14.probe S14.ctr;have HPr:=zD fun W=>zqG (p.ctrs.getD i (0,0)).1 (p.ctrs.getD i (0,0)).2 W;obtain⟨u,hu⟩:∃u,p.ctrs.getD i (0,0)=u:=⟨_,rfl⟩;rw[hu]at c0 c1 HPr⊢;obtain⟨u0,u1⟩:=u;simp only at c0 c1 HPr⊢;obtain⟨q,hq⟩:∃q,S08.predict u0 u1=q:=⟨_,rfl⟩;have HSt:=zD fun W=>ziI q W;rw[hq]at HPr⊢;obtain⟨R,hR⟩:∃R,S06.stretch q=R:=⟨_,rfl⟩;rw[hR]at HSt⊢;unfold PV at HPt;have hhd:∃tl,yG p y = .slice (some ⟨g,o,none⟩) p.ctrs.length y.c1::tl∧tl.length=15:=by unfold yG;rw[hga];exact⟨_,rfl,rfl⟩
 obtain⟨tl,htl,htl2⟩:=hhd;rw[htl]at HPt;obtain⟨m,hm⟩:∃m,p.ctrs.length=m:=⟨_,rfl⟩;rw[hm]at HPt hil;have hiz:(i:Int)<(m:Int):=by omega
 unfold CV;unfold VV at HPt HIx⊢;obtain⟨nc,hnc⟩:∃n,N.comps.length=n:=⟨_,rfl⟩;obtain⟨np,hnp⟩:∃n,N.parts.length=n:=⟨_,rfl⟩;obtain⟨nx,hnx⟩:∃n,N.ctxs.length=n:=⟨_,rfl⟩;rw[hnc,hnp,hnx,hpt]at HPt HIx⊢;clear hnc hnp hnx hm hR hq hu hi htl hcs h0 h1 hP hN hp hy hc hx hk hl hb;obtain⟨W1,hW1⟩:∃W1,(w.alloc (.cells (zT c).toArray 116)).alloc (.cells #[.slice L.a1 nc L.c1,.slice L.a2 np L.c2,.slice L.a3 nx L.c3,.int .i64 (pt:Int),.int .i64 (k:Int),b] 104)=W1:=⟨_,rfl⟩;have k2:Blk W1 (w.heap.size+1) [.slice L.a1 nc L.c1,.slice L.a2 np L.c2,.slice L.a3 nx L.c3,.int .i64 (pt:Int),.int .i64 (k:Int),b] 104:=by
  rw[←hW1];have h:=Blk.new (w.alloc (.cells (zT c).toArray 116)) [.slice L.a1 nc L.c1,.slice L.a2 np L.c2,.slice L.a3 nx L.c3,.int .i64 (pt:Int),.int .i64 (k:Int),b] 104;rwa[yA]at h
 have B1:Below w.heap.size w W1:=by rw[←hW1];exact((zG _ _).alloc (zE _) _).alloc (by simp) _
 have d0:=(B1.cell (zJ c0)).trans c0;have d1:=(B1.cell (zJ c1)).trans c1;rw[←Nat.add_assoc]at d1;have hCS:Cells W1 [(⟨w.heap.size+1,0,none⟩,.slice L.a1 nc L.c1),(⟨w.heap.size+1,1,none⟩,.slice L.a2 np L.c2),(⟨w.heap.size+1,2,none⟩,.slice L.a3 nx L.c3),(⟨w.heap.size+1,3,none⟩,.int .i64 (pt:Int)),(⟨w.heap.size+1,4,none⟩,.int .i64 (k:Int)),(⟨w.heap.size+1,5,none⟩,b),(⟨g,o+i*2,none⟩,.int .i64 u0),(⟨g,o+i*2+1,none⟩,.int .i64 u1)]:=⟨k2.cell 0,k2.cell 1,k2.cell 2,k2.cell 3,k2.cell 4,k2.cell 5,d0,d1,yJ⟩;go_enter Tryz.func187,Tryz.ntmps187;go_wp2_with (rw[hW1]);refine zrE 9 1 [(U,[U,zrA,zrA,U]),(zrA,[zrA,U]),(U,[zrA,zrA,U]),(zrA,[zrA,zrA,zrA,zrA,U]),(U,[zrA,zrA,zrA,zrA,zrA,U,U]),(zrA,[zrA,zrA,zrA,zrA,zrA,zrA,zrA,U]),(zrA,[zrA,zrA,zrA,zrA,zrA,zrA,zrA,zrA,U])] (Keeps W1 [(⟨w.heap.size+1,0,none⟩,.slice L.a1 nc L.c1),(⟨w.heap.size+1,1,none⟩,.slice L.a2 np L.c2),(⟨w.heap.size+1,2,none⟩,.slice L.a3 nx L.c3),(⟨w.heap.size+1,3,none⟩,.int .i64 (pt:Int)),(⟨w.heap.size+1,4,none⟩,.int .i64 (k:Int)),(⟨w.heap.size+1,5,none⟩,b),(⟨g,o+i*2,none⟩,.int .i64 u0),(⟨g,o+i*2+1,none⟩,.int .i64 u1)]) (by kernel_rfl) (Keeps.start hCS) (fun Y Q4 F4 hY hF=> ?_);simp only[zrC]
 repeat
  apply zF (by rw[hY];rfl)
  ·intro w2 hS2;(try simp only[Keeps,Cells]at hS2);go_simp;with_reducible rfl
  simp only[zrB]
 apply zS (by rw[hY];rfl)
 ·go_simp;with_reducible exact⟨rfl,rfl⟩
 refine(HPt.out _ (zA B1 (Keeps.start hCS).1)).mono ?_;rintro e w2 ⟨rfl,hb2⟩;have hk2:=(Keeps.start hCS).step hb2;refine⟨_,rfl,hk2,?_⟩;simp only[zrB];have hfd:=field_P0 (.slice (some ⟨g,o,none⟩) m y.c1) tl
 repeat
  apply zF (by rw[hY];rfl)
  ·intro w2 hS2;(try simp only[Keeps,Cells]at hS2);go_simp;with_reducible rfl
  simp only[zrB]
 apply zS (by rw[hY];rfl)
 ·go_simp;with_reducible exact⟨rfl,rfl⟩
 refine(HIx.out _ (zA B1 hk2.1)).mono ?_;rintro e w3 ⟨rfl,hb3⟩;have hk3:=hk2.step hb3;refine⟨_,rfl,hk3,?_⟩;simp only[zrB]
 repeat
  apply zF (by rw[hY];rfl)
  ·intro w2 hS2;(try simp only[Keeps,Cells]at hS2);go_simp;with_reducible rfl
  simp only[zrB]
 apply zS (by rw[hY];rfl)
 ·go_simp;with_reducible exact⟨rfl,rfl⟩
 refine(HPr.out _).mono ?_;rintro e w4 ⟨rfl,hb4⟩;have hk4:=hk3.step hb4;refine⟨_,rfl,hk4,?_⟩;simp only[zrB];apply zS (by rw[hY];rfl)
 ·go_simp;with_reducible exact⟨rfl,rfl⟩
 refine(HSt.out _).mono ?_;rintro e w5 ⟨rfl,hb5⟩;have hk5:=hk4.step hb5;refine⟨_,rfl,hk5,?_⟩;simp only[zrB];refine zZ (hF.out _ _ (fun K hK=> ?_));clear hF hY;have hB5:=zA B1 hk5.1;go_wp2_with fail;refine OnlyK.mk (hK.out _ _ ?_);clear hK hk2 hk3 hk4 hk5;go_wp2;go_returns;exact⟨rfl,hB5⟩
theorem Blk.rd_take{w:World}{b n:Nat}{cs vals:List Value}{t:TypeId}(h:Blk w b cs t)(hv:cs.take n=vals):Rd w (some ⟨b,0,none⟩) vals:=fun _=>⟨b,0,rfl,fun j v hj=>by
 rw[yV,h.cell];rw[←hv,List.getElem?_take]at hj;split at hj
 ·exact hj
 ·cases hj⟩
def S14.upd(l:List (Int×Int))(i:Nat)(bit limit:Int):List (Int×Int):=l.set i (S08.updateP (l.getD i (0,0)).1 (l.getD i (0,0)).2 bit limit,S08.updateN (l.getD i (0,0)).1 (l.getD i (0,0)).2 bit limit)
theorem zqA(xs:List (Int×Int))(i:Nat)(hi:i<xs.length)(hl:xs.length≤65536)(bit limit:Int)(a:Option Addr)(cap:Nat)(w:World)(hrd:Rd w a (Cts xs)) :
 Calls Tryz.prog 192 #[.slice a xs.length cap,.int .i64 (i:Int),.int .i64 bit,.int .i64 limit] w fun e w'=>∃a' cap',e = .returned (.slice a' xs.length cap')∧(∀g o,a'=some ⟨g,o,none⟩→w.heap.size≤g)∧Rd w' a' (Cts (S14.upd xs i bit limit))∧Below w.heap.size w w':=by
 obtain⟨g,o,rfl,hcs⟩:=hrd (fun e=>by have h1:=yQ List.length e;rw[zcB]at h1;simp at h1;omega);obtain⟨h0,h1⟩:=Cts_ix hi;have c0:=hcs _ _ h0;have c1:=hcs _ _ h1;rw[←Nat.add_assoc]at c1;have HC:=zD (cloneCtrs14 (Cts xs) xs.length (by rw[zcB]) (Cts14_one xs) g o cap w (by omega) (by omega) hrd);have HU:=zD fun W=>update08_any (xs.getD i (0,0)).1 (xs.getD i (0,0)).2 bit limit W;unfold S08.updateV at HU;unfold S14.upd;have HS:=zD (fun x=>Cts_set xs i x);obtain⟨u,hu⟩:∃u,xs.getD i (0,0)=u:=⟨_,rfl⟩;rw[hu]at c0 c1 HU⊢;obtain⟨u0,u1⟩:=u;simp only at c0 c1 HU⊢;obtain⟨p',hp'⟩:∃q,S08.updateP u0 u1 bit limit=q:=⟨_,rfl⟩;obtain⟨n',hn'⟩:∃q,S08.updateN u0 u1 bit limit=q:=⟨_,rfl⟩;obtain⟨e',he'⟩:∃q,S08.updateE u0 u1 bit limit=q:=⟨_,rfl⟩;rw[hp',hn',he']at HU;rw[hp',hn'];obtain⟨m,hm⟩:∃m,xs.length=m:=⟨_,rfl⟩;rw[hm]at HC hi hl⊢;have hiz:(i:Int)<(m:Int):=by omega
 clear hp' hn' he' hu h0 h1 hcs hrd hm;go_enter Tryz.func192,Tryz.ntmps192;go_wp2_with fail;refine HC.out.mono ?_;rintro e w1 ⟨a',cap',rfl,hown,hb1⟩;have d0:=(hb1.cell (zJ c0)).trans c0;have d1:=(hb1.cell (zJ c1)).trans c1;go_wp2_with fail;refine(HU.out _).mono ?_;rintro e w2 ⟨rfl,hb2⟩;have hown2:=yO (B:=0) hown hb2;have hB2:=zA hb1 hb2;obtain⟨hlen,hcase⟩:=hown2;rcases hcase with⟨_,h0⟩|⟨g2,cap2,cur,he,hbg,hg,hnc,hcm,hcs,htake⟩
 ·omega
 simp only[Value.slice.injEq,true_and]at he;obtain⟨rfl,rfl⟩:=he;have kb:Blk w2 g2 cur.toList 170:=by unfold Blk;rw[Array.toArray_toList];exact hg
 have hcl:i*2+1<cur.toList.length:=by rw[Array.length_toList,hcs];omega
 have s1:=kb.set (i*2) (.int .i64 p');have s2:=s1.set (i*2+1) (.int .i64 n');have f0:w2.cell? ⟨g2,i*2,none⟩=some (cur.toList[i*2]'(by omega)):=by rw[kb.cell,zI]
 have f1:w2.cell? ⟨g2,i*2+1,none⟩=some (cur.toList[i*2+1]'(by omega)):=by rw[kb.cell,zI]
 have f1':(w2.setCell ⟨g2,i*2,none⟩ (.int .i64 p')).cell? ⟨g2,i*2+1,none⟩=some (cur.toList[i*2+1]'(by omega)):=by
  rw[s1.cell,List.getElem?_set_ne (by omega),zI]
 have f2:=kb.free (i*2);have f3:=s1.free (i*2+1);have hres:=zD (s2.rd_take (n:=m*2) (vals:=Cts (xs.set i (p',n'))) (by rw[List.take_set,List.take_set,htake,HS.out]));have hB3:Below w.heap.size w ((w2.setCell ⟨g2,i*2,none⟩ (.int .i64 p')).setCell ⟨g2,i*2+1,none⟩ (.int .i64 n')):=(hB2.setCell (p:=⟨g2,i*2,none⟩) (by simp;omega) _).setCell (p:=⟨g2,i*2+1,none⟩) (by simp;omega) _;clear s1 s2 htake hown hg kb;go_wp2;go_returns;exact⟨_,_,rfl,fun g o e=>by cases e;exact hbg,hres.out,hB3⟩
theorem zbZ{P:Program}{w:World}{o:Oper}{a:Act}(T:TypeId)(x:Operand)(ho:o.op = .load T x)(b:Nat)(hx:a.eval x = .pointer (some ⟨b,0,none⟩))(cs:List Value)(hc:w.rangeAt b 0 cs)(d:TypeDesc)(hu:P.underlying T=some d)(hd:d.isRow=true)(hi:(P.info? T).map (·.size)=some cs.length) :
 (execOp a.eval o).run P w = .ok (.value (.agg cs.toArray)) w:=by
 unfold execOp;simp only[ho,hx,Instr.loadAt,Instr.sureAddr,Sem.run_bind,Sem.run_pure,Result.andThen_ok,run_loadVar_mid w b 0 T cs d hc hu hd hi]
theorem zhL(c:S14.C)(p:S14.P)(y:Lay)(pt:Int)(n P:Nat)(hn:n≤16)(hb:c.bits=n)(hP2:2^n=P)(w:World)(hP:PIs p y w) :
 Calls Tryz.prog 188 #[CV c,PV p y,.int .i64 pt] w fun e w'=>e = .returned (.bool (S14.bare {p with ctrs:=[]}&&(decide (p.ctrs.length=P) && !p.ctrs.any (S14.badC c.limit))))∧Below w.heap.size w w':=by
 have hp:=zdP hn;rw[hP2]at hp;have HS:=zD fun W=>zdE c n P hn hb hP2 W;have HB:=zD fun W=>zdH {p with ctrs:=[]} {y with a1:=none,c1:=0} W hP.mch.lh hP.mch.lb hP.mch.lc;have HT:=zD fun(W:World) (hW:Below w.heap.size w W)=>zfU p.ctrs P c.limit y.a1 y.c1 W hp.2 (hP.rc.step hW);obtain⟨W1,hW1,k1,k2,B1⟩:=zbO w c 116 p y;have hhd:∃tl,yG p y = .slice y.a1 p.ctrs.length y.c1::tl∧yG {p with ctrs:=[]} {y with a1:=none,c1:=0} = .slice none 0 0::tl∧tl.length=15:=⟨_,rfl,rfl,rfl⟩;obtain⟨tl,ht1,ht2,ht3⟩:=hhd;unfold PV at HB⊢;unfold CV at HS⊢;rw[ht1]at k2 hW1⊢;rw[ht2]at HB;obtain⟨q,hq⟩:∃q,S14.bare {p with ctrs:=[]}=q:=⟨_,rfl⟩;obtain⟨r,hr⟩:∃r,(decide (p.ctrs.length=P) && !p.ctrs.any (S14.badC c.limit))=r:=⟨_,rfl⟩;rw[hq]at HB⊢;rw[hr]at HT⊢;obtain⟨m,hm⟩:∃m,p.ctrs.length=m:=⟨_,rfl⟩;rw[hm]at HT k2 hW1⊢;obtain⟨kind,bits,limit,rate,first,second⟩:=c;unfold zT at *;simp only at HT HS k1 hW1⊢;have hi16:some 16=some (Value.slice none 0 0::tl).length:=by rw[zbD,ht3]
 clear hq hr hm ht1 ht2 hb hP;have e0:=k2.cell 0;have e0f:=k2.free 0;simp only[lgz]at e0;have k3:=k2.set 0 (.slice none 0 0);rw[List.set_cons_zero]at k3;have k1':=k1.other (w.heap.size+1) 0 (.slice none 0 0) (by omega);have B2:Below w.heap.size w (W1.setCell ⟨w.heap.size+1,0,none⟩ (.slice none 0 0)):=B1.setCell (p:=⟨w.heap.size+1,0,none⟩) (by simp) _;go_enter Tryz.func188,Tryz.ntmps188;go_wp2_with (rw[hW1]);obtain⟨W2,hW2⟩:∃W2,W1.setCell ⟨w.heap.size+1,0,none⟩ (.slice none 0 0)=W2:=⟨_,rfl⟩;rw[hW2]at k3 k1' B2⊢;clear hW2 e0 e0f k1 k2 B1 hW1;have hCS:Cells W2 [(⟨w.heap.size,0,none⟩,.int .i64 kind),(⟨w.heap.size,1,none⟩,.int .i64 bits),(⟨w.heap.size,2,none⟩,.int .i64 limit),(⟨w.heap.size,3,none⟩,.int .i64 rate),(⟨w.heap.size,4,none⟩,.int .i64 first),(⟨w.heap.size,5,none⟩,.int .i64 second)]:=⟨k1'.cell 0,k1'.cell 1,k1'.cell 2,k1'.cell 3,k1'.cell 4,k1'.cell 5,yJ⟩;cases q with
 | false=>
   go_wp2_with fail;refine zrE 12 1 [(U,[U]),(zrA,[zrA,U]),(U,[zrA,zrA,U,U,U,U,zrA,U,U,U]),(zrA,[zrA,zrA,zrA,zrA,zrA,zrA,U]),(zrA,[zrA,zrA,zrA,zrA,zrA,zrA,zrA,zrA,zrA,zrA,U]),(U,[zrA,zrA,zrA,zrA,zrA,zrA,zrA,zrA,zrA,zrA,zrA,U])] (Keeps W2 [(⟨w.heap.size,0,none⟩,.int .i64 kind),(⟨w.heap.size,1,none⟩,.int .i64 bits),(⟨w.heap.size,2,none⟩,.int .i64 limit),(⟨w.heap.size,3,none⟩,.int .i64 rate),(⟨w.heap.size,4,none⟩,.int .i64 first),(⟨w.heap.size,5,none⟩,.int .i64 second)]) (by kernel_rfl) (Keeps.start hCS) (fun Y Q4 F4 hY hF=> ?_);simp only[zrC]
   repeat
    apply zF (by rw[hY];rfl)
    ·intro w2 hS2;(try simp only[Keeps,Cells]at hS2);go_simp;with_reducible rfl
    simp only[zrB]
   apply zF (by rw[hY];rfl)
   ·intro w2 hS2;exact zbZ 83 (.tmp 4) (by rfl) (w.heap.size+1) (by rfl) (Value.slice none 0 0::tl) (k3.step hS2.1).cells _ Tryz.underlying83 rfl (info_P.trans hi16)
   simp only[zrB];apply zS (by rw[hY];rfl)
   ·go_simp;with_reducible exact⟨rfl,rfl⟩
   refine(HB.out _).mono ?_;rintro e w3 ⟨rfl,hb3⟩;have hk3:=(Keeps.start hCS).step hb3;refine⟨_,rfl,hk3,?_⟩;simp only[zrB]
   repeat
    apply zF (by rw[hY];rfl)
    ·intro w2 hS2;(try simp only[Keeps,Cells]at hS2);go_simp;with_reducible rfl
    simp only[zrB]
   repeat
    first
     | (apply zR (by rw[hY];rfl);simp only[zrB])
     | (refine yM (by rw[hY];rfl) (hk3) ?_;simp only[zrB])
   repeat
    apply zF (by rw[hY];rfl)
    ·intro w2 hS2;(try simp only[Keeps,Cells]at hS2);go_simp;with_reducible rfl
    simp only[zrB]
   refine zZ (hF.out _ _ (fun K hK=> ?_));clear hF hY;have B3:=zA B2 hk3.1;go_wp2_with fail;refine OnlyK.mk (hK.out _ _ ?_);clear hK;go_wp2;go_returns;exact⟨rfl,B3⟩
 | true=>
   go_wp2_with fail;refine zrE 12 1 [(U,[U]),(zrA,[zrA,U]),(U,[zrA,zrA,U,U,U,U,zrA,U,U,U]),(zrA,[zrA,zrA,zrA,zrA,zrA,zrA,U]),(zrA,[zrA,zrA,zrA,zrA,zrA,zrA,zrA,zrA,zrA,zrA,U]),(U,[zrA,zrA,zrA,zrA,zrA,zrA,zrA,zrA,zrA,zrA,zrA,U])] (Keeps W2 [(⟨w.heap.size,0,none⟩,.int .i64 kind),(⟨w.heap.size,1,none⟩,.int .i64 bits),(⟨w.heap.size,2,none⟩,.int .i64 limit),(⟨w.heap.size,3,none⟩,.int .i64 rate),(⟨w.heap.size,4,none⟩,.int .i64 first),(⟨w.heap.size,5,none⟩,.int .i64 second)]) (by kernel_rfl) (Keeps.start hCS) (fun Y Q4 F4 hY hF=> ?_);simp only[zrC]
   repeat
    apply zF (by rw[hY];rfl)
    ·intro w2 hS2;(try simp only[Keeps,Cells]at hS2);go_simp;with_reducible rfl
    simp only[zrB]
   apply zF (by rw[hY];rfl)
   ·intro w2 hS2;exact zbZ 83 (.tmp 4) (by rfl) (w.heap.size+1) (by rfl) (Value.slice none 0 0::tl) (k3.step hS2.1).cells _ Tryz.underlying83 rfl (info_P.trans hi16)
   simp only[zrB];apply zS (by rw[hY];rfl)
   ·go_simp;with_reducible exact⟨rfl,rfl⟩
   refine(HB.out _).mono ?_;rintro e w3 ⟨rfl,hb3⟩;have hk3:=(Keeps.start hCS).step hb3;refine⟨_,rfl,hk3,?_⟩;simp only[zrB]
   repeat
    apply zF (by rw[hY];rfl)
    ·intro w2 hS2;(try simp only[Keeps,Cells]at hS2);go_simp;with_reducible rfl
    simp only[zrB]
   apply zS (by rw[hY];rfl)
   ·go_simp;with_reducible exact⟨rfl,rfl⟩
   refine(HS.out _).mono ?_;rintro e w4 ⟨rfl,hb4⟩;have hk4:=hk3.step hb4;refine⟨_,rfl,hk4,?_⟩;simp only[zrB];apply zS (by rw[hY];rfl)
   ·go_simp;with_reducible exact⟨rfl,rfl⟩
   refine(HT.out _ (zA B2 hk4.1)).mono ?_;rintro e w5 ⟨rfl,hb5⟩;have hk5:=hk4.step hb5;refine⟨_,rfl,hk5,?_⟩;simp only[zrB]
   repeat
    apply zF (by rw[hY];rfl)
    ·intro w2 hS2;(try simp only[Keeps,Cells]at hS2);go_simp;with_reducible rfl
    simp only[zrB]
   refine zZ (hF.out _ _ (fun K hK=> ?_));clear hF hY;have B3:=zA B2 hk5.1;go_wp2_with fail;refine OnlyK.mk (hK.out _ _ ?_);clear hK;go_wp2;go_returns;exact⟨yZ (by simp),B3⟩
def S14.basic(l:List S14.C):Prop:=∀c∈l,c.kind=0∨c.kind=1∨c.kind=4
def S14.freshB(c:S14.C):S14.P:=if c.kind=1 then S14.fresh1 (2^c.bits.toNat)else S14.P0
def S14.outB(N:S14.N)(k:Nat)(bef:List Int):Int:=
 if(N.comps.getD k S14.zc).kind=0 then S06.stretch (N.comps.getD k S14.zc).limit else if(N.comps.getD k S14.zc).kind=1 then S14.probe (N.parts.getD k S14.P0) (S14.at_ N k (N.comps.getD k S14.zc))else S14.avg (N.comps.getD k S14.zc) bef
def S14.learnB(N:S14.N)(bit:Int)(k:Nat):S14.P:=
 if(N.comps.getD k S14.zc).kind=1 then {N.parts.getD k S14.P0 with ctrs:=S14.upd (N.parts.getD k S14.P0).ctrs (S14.at_ N k (N.comps.getD k S14.zc)) bit (N.comps.getD k S14.zc).limit}else N.parts.getD k S14.P0
theorem zfL{α:Type}{l:List α}{k:Nat}{x d:α}(h:l[k]? = some x):l.getD k d=x:=by rw[zY,h];rfl
theorem zbX{b:Int}(h:0≤b):b=(b.toNat:Int):=(Int.toNat_of_nonneg h).symm
theorem zhT(l:List S14.C)(hb:S14.basic l):zkR l S14.freshB:=fun k c hc hok W=>by
 have hi:=S14.ok_is hok;rcases hb c (yN hc)with h|h|h
 ·unfold zpY S14.freshB;rw[zU h,zK (by omega)];exact(zfX c W).mono fun e w' h=>⟨zbC,h.1,PRob.zero _ _ _,h.2⟩
 ·unfold zpY S14.freshB;rw[zK (by omega),zU h,zU h];exact zhM c c.bits.toNat _ (by have:=hi.bits;omega) (zbX hi.bits.1) rfl W
 ·unfold zpY S14.freshB;rw[zK (by omega),zK (by omega),zK (by omega),zK (by omega),zU h,zK (by omega)];exact(zgP c W).mono fun e w' h=>⟨zbC,h.1,PRob.zero _ _ _,h.2⟩
theorem zdF(N:S14.N)(L:NLay)(w:World)(hN:NIs N L w)(hb:S14.basic N.comps):zdZ N L w:=fun k c p y hc hok hp hy W hW=>by
 have hi:=S14.ok_is hok;have hP:=(hN.ps k p y hp hy).step hW;rcases hb c (yN hc)with h|h|h
 ·unfold zfY S14.right;rw[zU h,zU h];exact zfW c p y N.part W hP
 ·unfold zfY S14.right;rw[zK (by omega),zU h,zK (by omega),zU h];exact zhL c p y N.part c.bits.toNat _ (by have:=hi.bits;omega) (zbX hi.bits.1) rfl W hP
 ·unfold zfY S14.right;rw[zK (by omega),zK (by omega),zK (by omega),zK (by omega),zU h,zK (by omega),zK (by omega),zK (by omega),zK (by omega),zU h];exact zgO c p y N.part W hP
theorem sees14{N:S14.N}{L:NLay}{w:World}(hN:NIs N L w)(h0:S14.checkNet N=0){k:Nat}{c:S14.C}(hc:N.comps[k]? = some c) :
 ∃p y,N.parts[k]? = some p∧L.ys[k]? = some y∧PIs p y w∧k<N.parts.length∧k<N.ctxs.length∧S14.ok c (k:Int)=true∧S14.right c p N.part=true∧1≤N.part∧N.part≤255:=by
 obtain⟨hck,hpl,hxl,hp1,hp2,har⟩:=S14.checkNet_zero h0;obtain⟨hl0,hl,hok⟩:=S14.check_zero hck;have hk:=(List.getElem?_eq_some_iff.1 hc).1;obtain⟨p,hp⟩:∃p,N.parts[k]? = some p:=⟨_,zI (by omega)⟩;obtain⟨y,hy⟩:∃y,L.ys[k]? = some y:=⟨_,zI (by rw[hN.ly];omega)⟩;exact⟨p,y,hp,hy,hN.ps k p y hp hy,by omega,by omega,hok k c hc,har k c p hc hp,hp1,hp2⟩
theorem zlL{c:S14.C}{p:S14.P}{pt:Int}(h:c.kind=1)(hr:S14.right c p pt=true):p.ctrs.length=2^c.bits.toNat:=by
 unfold S14.right at hr;rw[zK (by omega),zU h]at hr;unfold S14.okCtrs at hr;simp only[yF,yK]at hr;exact hr.2.1
theorem average_ok14{c:S14.C}{k:Int}(h:c.kind=4)(hok:S14.ok c k=true):(0≤c.limit∧c.limit≤256)∧(0≤c.first∧c.first<k)∧(0≤c.second∧c.second<k):=by
 unfold S14.ok at hok;rw[zK (by omega),zK (by omega),zK (by omega),zK (by omega),zU h]at hok;unfold S14.okAverage at hok;simp only[yF,S14.has_iff]at hok;omega
theorem zeZ(N:S14.N)(L:NLay)(w:World)(hN:NIs N L w)(hb:S14.basic N.comps)(h0:S14.checkNet N=0):zgY N L w (S14.outB N):=fun k c hc bef a W hW hrd hlen hin=>by
 obtain⟨p,y,hp,hy,hP,hk1,hk2,hok,hr,hp1,hp2⟩:=sees14 hN h0 hc;have hi:=S14.ok_is hok;unfold S14.outB;rw[zfL hc,zfL hp];rcases hb c (yN hc)with h|h|h
 ·unfold OutF;rw[zU h,zU h];exact⟨const14_out c N L k _ W,S06.stretch_bounds _⟩
 ·unfold OutF;rw[zK (by omega),zU h,zK (by omega),zU h];exact⟨direct14_out c N L k _ rfl p y c.bits.toNat W (hN.step hW) hc hp hy hk2 N.part.toNat (zbX (by omega)) (by omega) (zbX hi.bits.1) (by have:=hi.bits;omega) (zlL h hr),S06.stretch_bounds _⟩
 ·unfold OutF;have hav:=average_ok14 h hok;subst hlen;rw[zK (by omega),zK (by omega),zK (by omega),zK (by omega),zU h,zK (by omega),zK (by omega)];exact⟨zqW c N L _ a _ bef W hin hav.1 hav.2.1 hav.2.2 hrd,S14.avg_in hin hav.1⟩
theorem S14.checkNet_of{N:S14.N}(h1:S14.check N.comps=0)(h2:N.parts.length=N.comps.length)(h3:N.ctxs.length=16)(h4:1≤N.part∧N.part≤255)(h5:S14.allRight N):S14.checkNet N=0:=by
 unfold S14.checkNet;rw[zK (by rw[h1];simp),zK (by omega),zK (by have:=S14.has_iff.2 h4;simp[this]),zU h5]
def nK:S14.N:=⟨[cK],[S14.P0],List.replicate 16 0,1⟩
def nD:S14.N:=⟨[cD],[S14.fresh1 1],List.replicate 16 0,1⟩
def pD2:S14.P:={S14.fresh1 1 with ctrs:=[(S08.updateP 32768 0 1 255,S08.updateN 32768 0 1 255)]}
def nD2:S14.N:=⟨[cD],[pD2],List.replicate 16 0,3⟩
def nA:S14.N:=⟨[cK,cD,cA],[S14.P0,S14.fresh1 1,S14.P0],List.replicate 16 0,1⟩
theorem nK_ok:S14.checkNet nK=0:=S14.checkNet_of (by decide +kernel) rfl rfl (by decide) (fun k c p h1 h2=>by
 match k,h1,h2 with
 | 0,h1,h2=>cases h1;cases h2;decide +kernel
 | k+1,h1,_=>cases h1)
theorem nD_ok:S14.checkNet nD=0:=S14.checkNet_of (by decide +kernel) rfl rfl (by decide) (fun k c p h1 h2=>by
 match k,h1,h2 with
 | 0,h1,h2=>cases h1;cases h2;decide +kernel
 | k+1,h1,_=>cases h1)
theorem nD2_ok:S14.checkNet nD2=0:=S14.checkNet_of (by decide +kernel) rfl rfl (by decide) (fun k c p h1 h2=>by
 match k,h1,h2 with
 | 0,h1,h2=>cases h1;cases h2;decide +kernel
 | k+1,h1,_=>cases h1)
theorem nA_ok:S14.checkNet nA=0:=S14.checkNet_of (by decide +kernel) rfl rfl (by decide) (fun k c p h1 h2=>by
 match k,h1,h2 with
 | 0,h1,h2=>cases h1;cases h2;decide +kernel
 | 1,h1,h2=>cases h1;cases h2;decide +kernel
 | 2,h1,h2=>cases h1;cases h2;decide +kernel
 | k+3,h1,_=>cases h1)
theorem zqK:S14.basic nK.comps:=by unfold S14.basic;decide +kernel
theorem zeK:S14.basic nD.comps:=by unfold S14.basic;decide +kernel
theorem ziR:S14.basic nA.comps:=by unfold S14.basic;decide +kernel
theorem nK_pred:S06.squash ((S14.outs (S14.outB nK) 1).getD 0 0)=3072:=by decide +kernel
theorem nD_pred:S06.squash ((S14.outs (S14.outB nD) 1).getD 0 0)=2048:=by decide +kernel
theorem nD2_pred:S06.squash ((S14.outs (S14.outB nD2) 1).getD 0 0)=3414:=by decide +kernel
theorem nA_outs:S14.outs (S14.outB nA) 3 = [427,0,214]:=by decide +kernel
theorem nA_pred:S06.squash ((S14.outs (S14.outB nA) 3).getD 2 0)=2589:=by decide +kernel
theorem nD_next:S14.next nD.part 1=3:=by decide +kernel
theorem noM_zero:S14.noM S14.zM=true:=rfl
theorem rempty14_0(c:S14.C)(p:S14.P)(y:Lay)(w:World)(hP:PIs p y w)(hk:c.kind=0) :
 Calls Tryz.prog 79 #[CV c,PV p y] w fun e w'=>e = .returned (.bool (S14.bare p))∧Below w.heap.size w w':=by
 have HS:=zD fun(W:World) (hW:Below w.heap.size w W)=>zcQ p.m y.pl W (hP.mch.step hW);obtain⟨R,hR⟩:∃R,S14.bare p=R:=⟨_,rfl⟩;rw[hR];unfold S14.bare at hR;try simp only at hR
 obtain⟨nm,hnm⟩:∃b,S14.noM p.m=b:=⟨_,rfl⟩;rw[hnm]at hR HS;clear hnm;obtain⟨W1,hW1,k1,k2,B1⟩:=zbO w c 54 p y;clear hP;obtain⟨kind,bits,limit,rate,first,second⟩:=c;simp only at hk;subst hk;unfold CV PV;unfold zT at *;unfold yG at *;unfold MV zbQ at HS;obtain⟨ctrs,sb,sd,slot,⟨bits',least,heads,bytes,at_,len,part,bit,mctrs⟩,mi,mw,ac⟩:=p;obtain⟨a1,c1,a2,c2,pl,a3,c3,a4,c4⟩:=y;simp only at hR HS hW1 k1 k2⊢;obtain⟨l1,h1⟩:∃n,ctrs.length=n:=⟨_,rfl⟩;obtain⟨l2,h2⟩:∃n,sd.length=n:=⟨_,rfl⟩;obtain⟨l3,h3⟩:∃n,mw.length=n:=⟨_,rfl⟩;obtain⟨l4,h4⟩:∃n,ac.length=n:=⟨_,rfl⟩;rw[h1,h2,h3,h4]at hW1 k2;try rw[h1]at hR
 try rw[h2]at hR
 try rw[h3]at hR
 try rw[h4]at hR
 rw[h1,h2,h3,h4];clear h1 h2 h3 h4;have x0:=k1.cell 0;have q0:=k2.cell 0;have q1:=k2.cell 1;have q2:=k2.cell 2;have q3:=k2.cell 3;have q4:=k2.cell 4;have q5:=k2.cell 5;have q6:=k2.cell 6;have q7:=k2.cell 7;have q8:=k2.cell 8;have q9:=k2.cell 9;have q10:=k2.cell 10;have q11:=k2.cell 11;have q12:=k2.cell 12;have q13:=k2.cell 13;have q14:=k2.cell 14;have q15:=k2.cell 15;simp only[zrD]at x0 q0 q1 q2 q3 q4 q5 q6 q7 q8 q9 q10 q11 q12 q13 q14 q15;by_cases d0:l1=0
 ·subst d0;by_cases d1:sb=0
  ·subst d1;by_cases d2:l2=0
   ·subst d2;by_cases d3:slot=0
    ·subst d3;go_enter Tryz.func79,Tryz.ntmps79;go_wp2_with (rw[hW1]);refine(HS.out _ B1).mono ?_;rintro e w5 ⟨rfl,hb5⟩;have B5:=zA B1 hb5;have kk1:=k1.step hb5;have kk2:=k2.step hb5;clear x0 q0 q1 q2 q3 q4 q5 q6 q7 q8 q9 q10 q11 q12 q13 q14 q15;have x0:=kk1.cell 0;have q0:=kk2.cell 0;have q1:=kk2.cell 1;have q2:=kk2.cell 2;have q3:=kk2.cell 3;have q4:=kk2.cell 4;have q5:=kk2.cell 5;have q6:=kk2.cell 6;have q7:=kk2.cell 7;have q8:=kk2.cell 8;have q9:=kk2.cell 9;have q10:=kk2.cell 10;have q11:=kk2.cell 11;have q12:=kk2.cell 12;have q13:=kk2.cell 13;have q14:=kk2.cell 14;have q15:=kk2.cell 15;simp only[zrD]at x0 q0 q1 q2 q3 q4 q5 q6 q7 q8 q9 q10 q11 q12 q13 q14 q15;clear kk1 kk2 k1 k2;cases nm with
     | false=>
       obtain rfl:R=false:=by rw[←hR];simp
       clear hR;go_wp2;go_returns;exact⟨by first|rfl|simp,B5⟩
     | true=>
       by_cases d5:mi=0
       ·subst d5;by_cases d6:l3=0
        ·subst d6;by_cases d7:l4=0
         ·subst d7;obtain rfl:R=true:=by rw[←hR];simp[*]
          clear hR;go_wp2;go_returns;exact⟨by first|rfl|simp,B5⟩
         ·obtain rfl:R=false:=by rw[←hR];simp[d7]
          clear hR;have e7:(0:Int)<(l4:Int):=by omega
          have f7:((l4:Int)==0)=false:=by simp[d7]
          go_wp2;go_returns;exact⟨by first|rfl|simp,B5⟩
        ·obtain rfl:R=false:=by rw[←hR];simp[d6]
         clear hR;have e6:(0:Int)<(l3:Int):=by omega
         have f6:((l3:Int)==0)=false:=by simp[d6]
         go_wp2;go_returns;exact⟨by first|rfl|simp,B5⟩
       ·obtain rfl:R=false:=by rw[←hR];simp[d5]
        clear hR;have e5:(mi==0)=false:=by simp[d5]
        go_wp2;go_returns;exact⟨by first|rfl|simp,B5⟩
    ·obtain rfl:R=false:=by rw[←hR];simp[d3]
     clear hR;have e3:(slot==0)=false:=by simp[d3]
     go_enter Tryz.func79,Tryz.ntmps79;go_wp2_with (rw[hW1]);go_returns;exact⟨by first|rfl|simp,B1⟩
   ·obtain rfl:R=false:=by rw[←hR];simp[d2]
    clear hR;have e2:(0:Int)<(l2:Int):=by omega
    have f2:((l2:Int)==0)=false:=by simp[d2]
    go_enter Tryz.func79,Tryz.ntmps79;go_wp2_with (rw[hW1]);go_returns;exact⟨by first|rfl|simp,B1⟩
  ·obtain rfl:R=false:=by rw[←hR];simp[d1]
   clear hR;have e1:(sb==0)=false:=by simp[d1]
   go_enter Tryz.func79,Tryz.ntmps79;go_wp2_with (rw[hW1]);go_returns;exact⟨by first|rfl|simp,B1⟩
 ·obtain rfl:R=false:=by rw[←hR];simp[d0]
  clear hR;have e0:(0:Int)<(l1:Int):=by omega
  have f0:((l1:Int)==0)=false:=by simp[d0]
  go_enter Tryz.func79,Tryz.ntmps79;go_wp2_with (rw[hW1]);go_returns;exact⟨by first|rfl|simp,B1⟩
theorem rempty14_1(c:S14.C)(p:S14.P)(y:Lay)(w:World)(hP:PIs p y w)(hk:c.kind=1) :
 Calls Tryz.prog 79 #[CV c,PV p y] w fun e w'=>e = .returned (.bool (S14.bare {p with ctrs:=[]}))∧Below w.heap.size w w':=by
 have HS:=zD fun(W:World) (hW:Below w.heap.size w W)=>zcQ p.m y.pl W (hP.mch.step hW);obtain⟨R,hR⟩:∃R,S14.bare {p with ctrs:=[]}=R:=⟨_,rfl⟩;rw[hR];unfold S14.bare at hR;try simp only at hR
 obtain⟨nm,hnm⟩:∃b,S14.noM p.m=b:=⟨_,rfl⟩;rw[hnm]at hR HS;clear hnm;obtain⟨W1,hW1,k1,k2,B1⟩:=zbO w c 54 p y;clear hP;obtain⟨kind,bits,limit,rate,first,second⟩:=c;simp only at hk;subst hk;unfold CV PV;unfold zT at *;unfold yG at *;unfold MV zbQ at HS;obtain⟨ctrs,sb,sd,slot,⟨bits',least,heads,bytes,at_,len,part,bit,mctrs⟩,mi,mw,ac⟩:=p;obtain⟨a1,c1,a2,c2,pl,a3,c3,a4,c4⟩:=y;simp only at hR HS hW1 k1 k2⊢;obtain⟨l1,h1⟩:∃n,ctrs.length=n:=⟨_,rfl⟩;obtain⟨l2,h2⟩:∃n,sd.length=n:=⟨_,rfl⟩;obtain⟨l3,h3⟩:∃n,mw.length=n:=⟨_,rfl⟩;obtain⟨l4,h4⟩:∃n,ac.length=n:=⟨_,rfl⟩;rw[h1,h2,h3,h4]at hW1 k2;try rw[h1]at hR
 try rw[h2]at hR
 try rw[h3]at hR
 try rw[h4]at hR
 rw[h1,h2,h3,h4];clear h1 h2 h3 h4;have x0:=k1.cell 0;have q0:=k2.cell 0;have q1:=k2.cell 1;have q2:=k2.cell 2;have q3:=k2.cell 3;have q4:=k2.cell 4;have q5:=k2.cell 5;have q6:=k2.cell 6;have q7:=k2.cell 7;have q8:=k2.cell 8;have q9:=k2.cell 9;have q10:=k2.cell 10;have q11:=k2.cell 11;have q12:=k2.cell 12;have q13:=k2.cell 13;have q14:=k2.cell 14;have q15:=k2.cell 15;simp only[zrD]at x0 q0 q1 q2 q3 q4 q5 q6 q7 q8 q9 q10 q11 q12 q13 q14 q15;by_cases d0:sb=0
 ·subst d0;by_cases d1:l2=0
  ·subst d1;by_cases d2:slot=0
   ·subst d2;go_enter Tryz.func79,Tryz.ntmps79;go_wp2_with (rw[hW1]);refine(HS.out _ B1).mono ?_;rintro e w5 ⟨rfl,hb5⟩;have B5:=zA B1 hb5;have kk1:=k1.step hb5;have kk2:=k2.step hb5;clear x0 q0 q1 q2 q3 q4 q5 q6 q7 q8 q9 q10 q11 q12 q13 q14 q15;have x0:=kk1.cell 0;have q0:=kk2.cell 0;have q1:=kk2.cell 1;have q2:=kk2.cell 2;have q3:=kk2.cell 3;have q4:=kk2.cell 4;have q5:=kk2.cell 5;have q6:=kk2.cell 6;have q7:=kk2.cell 7;have q8:=kk2.cell 8;have q9:=kk2.cell 9;have q10:=kk2.cell 10;have q11:=kk2.cell 11;have q12:=kk2.cell 12;have q13:=kk2.cell 13;have q14:=kk2.cell 14;have q15:=kk2.cell 15;simp only[zrD]at x0 q0 q1 q2 q3 q4 q5 q6 q7 q8 q9 q10 q11 q12 q13 q14 q15;clear kk1 kk2 k1 k2;cases nm with
    | false=>
      obtain rfl:R=false:=by rw[←hR];simp
      clear hR;go_wp2;go_returns;exact⟨by first|rfl|simp,B5⟩
    | true=>
      by_cases d4:mi=0
      ·subst d4;by_cases d5:l3=0
       ·subst d5;by_cases d6:l4=0
        ·subst d6;obtain rfl:R=true:=by rw[←hR];simp[*]
         clear hR;go_wp2;go_returns;exact⟨by first|rfl|simp,B5⟩
        ·obtain rfl:R=false:=by rw[←hR];simp[d6]
         clear hR;have e6:(0:Int)<(l4:Int):=by omega
         have f6:((l4:Int)==0)=false:=by simp[d6]
         go_wp2;go_returns;exact⟨by first|rfl|simp,B5⟩
       ·obtain rfl:R=false:=by rw[←hR];simp[d5]
        clear hR;have e5:(0:Int)<(l3:Int):=by omega
        have f5:((l3:Int)==0)=false:=by simp[d5]
        go_wp2;go_returns;exact⟨by first|rfl|simp,B5⟩
      ·obtain rfl:R=false:=by rw[←hR];simp[d4]
       clear hR;have e4:(mi==0)=false:=by simp[d4]
       go_wp2;go_returns;exact⟨by first|rfl|simp,B5⟩
   ·obtain rfl:R=false:=by rw[←hR];simp[d2]
    clear hR;have e2:(slot==0)=false:=by simp[d2]
    go_enter Tryz.func79,Tryz.ntmps79;go_wp2_with (rw[hW1]);go_returns;exact⟨by first|rfl|simp,B1⟩
  ·obtain rfl:R=false:=by rw[←hR];simp[d1]
   clear hR;have e1:(0:Int)<(l2:Int):=by omega
   have f1:((l2:Int)==0)=false:=by simp[d1]
   go_enter Tryz.func79,Tryz.ntmps79;go_wp2_with (rw[hW1]);go_returns;exact⟨by first|rfl|simp,B1⟩
 ·obtain rfl:R=false:=by rw[←hR];simp[d0]
  clear hR;have e0:(sb==0)=false:=by simp[d0]
  go_enter Tryz.func79,Tryz.ntmps79;go_wp2_with (rw[hW1]);go_returns;exact⟨by first|rfl|simp,B1⟩
theorem rempty14_2(c:S14.C)(p:S14.P)(y:Lay)(w:World)(hP:PIs p y w)(hk:c.kind=2) :
 Calls Tryz.prog 79 #[CV c,PV p y] w fun e w'=>e = .returned (.bool (S14.bare {p with ctrs:=[],sb:=0,sd:=[],slot:=0}))∧Below w.heap.size w w':=by
 have HS:=zD fun(W:World) (hW:Below w.heap.size w W)=>zcQ p.m y.pl W (hP.mch.step hW);obtain⟨R,hR⟩:∃R,S14.bare {p with ctrs:=[],sb:=0,sd:=[],slot:=0}=R:=⟨_,rfl⟩;rw[hR];unfold S14.bare at hR;try simp only at hR
 obtain⟨nm,hnm⟩:∃b,S14.noM p.m=b:=⟨_,rfl⟩;rw[hnm]at hR HS;clear hnm;obtain⟨W1,hW1,k1,k2,B1⟩:=zbO w c 54 p y;clear hP;obtain⟨kind,bits,limit,rate,first,second⟩:=c;simp only at hk;subst hk;unfold CV PV;unfold zT at *;unfold yG at *;unfold MV zbQ at HS;obtain⟨ctrs,sb,sd,slot,⟨bits',least,heads,bytes,at_,len,part,bit,mctrs⟩,mi,mw,ac⟩:=p;obtain⟨a1,c1,a2,c2,pl,a3,c3,a4,c4⟩:=y;simp only at hR HS hW1 k1 k2⊢;obtain⟨l1,h1⟩:∃n,ctrs.length=n:=⟨_,rfl⟩;obtain⟨l2,h2⟩:∃n,sd.length=n:=⟨_,rfl⟩;obtain⟨l3,h3⟩:∃n,mw.length=n:=⟨_,rfl⟩;obtain⟨l4,h4⟩:∃n,ac.length=n:=⟨_,rfl⟩;rw[h1,h2,h3,h4]at hW1 k2;try rw[h1]at hR
 try rw[h2]at hR
 try rw[h3]at hR
 try rw[h4]at hR
 rw[h1,h2,h3,h4];clear h1 h2 h3 h4;have x0:=k1.cell 0;have q0:=k2.cell 0;have q1:=k2.cell 1;have q2:=k2.cell 2;have q3:=k2.cell 3;have q4:=k2.cell 4;have q5:=k2.cell 5;have q6:=k2.cell 6;have q7:=k2.cell 7;have q8:=k2.cell 8;have q9:=k2.cell 9;have q10:=k2.cell 10;have q11:=k2.cell 11;have q12:=k2.cell 12;have q13:=k2.cell 13;have q14:=k2.cell 14;have q15:=k2.cell 15;simp only[zrD]at x0 q0 q1 q2 q3 q4 q5 q6 q7 q8 q9 q10 q11 q12 q13 q14 q15;go_enter Tryz.func79,Tryz.ntmps79;go_wp2_with (rw[hW1]);refine(HS.out _ B1).mono ?_;rintro e w5 ⟨rfl,hb5⟩;have B5:=zA B1 hb5;have kk1:=k1.step hb5;have kk2:=k2.step hb5;clear x0 q0 q1 q2 q3 q4 q5 q6 q7 q8 q9 q10 q11 q12 q13 q14 q15;have x0:=kk1.cell 0;have q0:=kk2.cell 0;have q1:=kk2.cell 1;have q2:=kk2.cell 2;have q3:=kk2.cell 3;have q4:=kk2.cell 4;have q5:=kk2.cell 5;have q6:=kk2.cell 6;have q7:=kk2.cell 7;have q8:=kk2.cell 8;have q9:=kk2.cell 9;have q10:=kk2.cell 10;have q11:=kk2.cell 11;have q12:=kk2.cell 12;have q13:=kk2.cell 13;have q14:=kk2.cell 14;have q15:=kk2.cell 15;simp only[zrD]at x0 q0 q1 q2 q3 q4 q5 q6 q7 q8 q9 q10 q11 q12 q13 q14 q15;clear kk1 kk2 k1 k2;cases nm with
 | false=>
   obtain rfl:R=false:=by rw[←hR];simp
   clear hR;go_wp2;go_returns;exact⟨by first|rfl|simp,B5⟩
 | true=>
   by_cases d1:mi=0
   ·subst d1;by_cases d2:l3=0
    ·subst d2;by_cases d3:l4=0
     ·subst d3;obtain rfl:R=true:=by rw[←hR];simp[*]
      clear hR;go_wp2;go_returns;exact⟨by first|rfl|simp,B5⟩
     ·obtain rfl:R=false:=by rw[←hR];simp[d3]
      clear hR;have e3:(0:Int)<(l4:Int):=by omega
      have f3:((l4:Int)==0)=false:=by simp[d3]
      go_wp2;go_returns;exact⟨by first|rfl|simp,B5⟩
    ·obtain rfl:R=false:=by rw[←hR];simp[d2]
     clear hR;have e2:(0:Int)<(l3:Int):=by omega
     have f2:((l3:Int)==0)=false:=by simp[d2]
     go_wp2;go_returns;exact⟨by first|rfl|simp,B5⟩
   ·obtain rfl:R=false:=by rw[←hR];simp[d1]
    clear hR;have e1:(mi==0)=false:=by simp[d1]
    go_wp2;go_returns;exact⟨by first|rfl|simp,B5⟩
theorem rempty14_3(c:S14.C)(p:S14.P)(y:Lay)(w:World)(hP:PIs p y w)(hk:c.kind=3) :
 Calls Tryz.prog 79 #[CV c,PV p y] w fun e w'=>e = .returned (.bool (S14.bare {p with m:=S14.zM}))∧Below w.heap.size w w':=by
 obtain⟨R,hR⟩:∃R,S14.bare {p with m:=S14.zM}=R:=⟨_,rfl⟩;rw[hR];unfold S14.bare at hR;try simp only at hR
 rw[noM_zero]at hR;obtain⟨W1,hW1,k1,k2,B1⟩:=zbO w c 54 p y;clear hP;obtain⟨kind,bits,limit,rate,first,second⟩:=c;simp only at hk;subst hk;unfold CV PV;unfold zT at *;unfold yG at *;obtain⟨ctrs,sb,sd,slot,⟨bits',least,heads,bytes,at_,len,part,bit,mctrs⟩,mi,mw,ac⟩:=p;obtain⟨a1,c1,a2,c2,pl,a3,c3,a4,c4⟩:=y;simp only at hR hW1 k1 k2⊢;obtain⟨l1,h1⟩:∃n,ctrs.length=n:=⟨_,rfl⟩;obtain⟨l2,h2⟩:∃n,sd.length=n:=⟨_,rfl⟩;obtain⟨l3,h3⟩:∃n,mw.length=n:=⟨_,rfl⟩;obtain⟨l4,h4⟩:∃n,ac.length=n:=⟨_,rfl⟩;rw[h1,h2,h3,h4]at hW1 k2;try rw[h1]at hR
 try rw[h2]at hR
 try rw[h3]at hR
 try rw[h4]at hR
 rw[h1,h2,h3,h4];clear h1 h2 h3 h4;have x0:=k1.cell 0;have q0:=k2.cell 0;have q1:=k2.cell 1;have q2:=k2.cell 2;have q3:=k2.cell 3;have q4:=k2.cell 4;have q5:=k2.cell 5;have q6:=k2.cell 6;have q7:=k2.cell 7;have q8:=k2.cell 8;have q9:=k2.cell 9;have q10:=k2.cell 10;have q11:=k2.cell 11;have q12:=k2.cell 12;have q13:=k2.cell 13;have q14:=k2.cell 14;have q15:=k2.cell 15;simp only[zrD]at x0 q0 q1 q2 q3 q4 q5 q6 q7 q8 q9 q10 q11 q12 q13 q14 q15;by_cases d0:l1=0
 ·subst d0;by_cases d1:sb=0
  ·subst d1;by_cases d2:l2=0
   ·subst d2;by_cases d3:slot=0
    ·subst d3;by_cases d4:mi=0
     ·subst d4;by_cases d5:l3=0
      ·subst d5;by_cases d6:l4=0
       ·subst d6;obtain rfl:R=true:=by rw[←hR];simp[*]
        clear hR;go_enter Tryz.func79,Tryz.ntmps79;go_wp2_with (rw[hW1]);go_returns;exact⟨by first|rfl|simp,B1⟩
       ·obtain rfl:R=false:=by rw[←hR];simp[d6]
        clear hR;have e6:(0:Int)<(l4:Int):=by omega
        have f6:((l4:Int)==0)=false:=by simp[d6]
        go_enter Tryz.func79,Tryz.ntmps79;go_wp2_with (rw[hW1]);go_returns;exact⟨by first|rfl|simp,B1⟩
      ·obtain rfl:R=false:=by rw[←hR];simp[d5]
       clear hR;have e5:(0:Int)<(l3:Int):=by omega
       have f5:((l3:Int)==0)=false:=by simp[d5]
       go_enter Tryz.func79,Tryz.ntmps79;go_wp2_with (rw[hW1]);go_returns;exact⟨by first|rfl|simp,B1⟩
     ·obtain rfl:R=false:=by rw[←hR];simp[d4]
      clear hR;have e4:(mi==0)=false:=by simp[d4]
      go_enter Tryz.func79,Tryz.ntmps79;go_wp2_with (rw[hW1]);go_returns;exact⟨by first|rfl|simp,B1⟩
    ·obtain rfl:R=false:=by rw[←hR];simp[d3]
     clear hR;have e3:(slot==0)=false:=by simp[d3]
     go_enter Tryz.func79,Tryz.ntmps79;go_wp2_with (rw[hW1]);go_returns;exact⟨by first|rfl|simp,B1⟩
   ·obtain rfl:R=false:=by rw[←hR];simp[d2]
    clear hR;have e2:(0:Int)<(l2:Int):=by omega
    have f2:((l2:Int)==0)=false:=by simp[d2]
    go_enter Tryz.func79,Tryz.ntmps79;go_wp2_with (rw[hW1]);go_returns;exact⟨by first|rfl|simp,B1⟩
  ·obtain rfl:R=false:=by rw[←hR];simp[d1]
   clear hR;have e1:(sb==0)=false:=by simp[d1]
   go_enter Tryz.func79,Tryz.ntmps79;go_wp2_with (rw[hW1]);go_returns;exact⟨by first|rfl|simp,B1⟩
 ·obtain rfl:R=false:=by rw[←hR];simp[d0]
  clear hR;have e0:(0:Int)<(l1:Int):=by omega
  have f0:((l1:Int)==0)=false:=by simp[d0]
  go_enter Tryz.func79,Tryz.ntmps79;go_wp2_with (rw[hW1]);go_returns;exact⟨by first|rfl|simp,B1⟩
theorem rempty14_4(c:S14.C)(p:S14.P)(y:Lay)(w:World)(hP:PIs p y w)(hk:c.kind=4) :
 Calls Tryz.prog 79 #[CV c,PV p y] w fun e w'=>e = .returned (.bool (S14.bare p))∧Below w.heap.size w w':=by
 have HS:=zD fun(W:World) (hW:Below w.heap.size w W)=>zcQ p.m y.pl W (hP.mch.step hW);obtain⟨R,hR⟩:∃R,S14.bare p=R:=⟨_,rfl⟩;rw[hR];unfold S14.bare at hR;try simp only at hR
 obtain⟨nm,hnm⟩:∃b,S14.noM p.m=b:=⟨_,rfl⟩;rw[hnm]at hR HS;clear hnm;obtain⟨W1,hW1,k1,k2,B1⟩:=zbO w c 54 p y;clear hP;obtain⟨kind,bits,limit,rate,first,second⟩:=c;simp only at hk;subst hk;unfold CV PV;unfold zT at *;unfold yG at *;unfold MV zbQ at HS;obtain⟨ctrs,sb,sd,slot,⟨bits',least,heads,bytes,at_,len,part,bit,mctrs⟩,mi,mw,ac⟩:=p;obtain⟨a1,c1,a2,c2,pl,a3,c3,a4,c4⟩:=y;simp only at hR HS hW1 k1 k2⊢;obtain⟨l1,h1⟩:∃n,ctrs.length=n:=⟨_,rfl⟩;obtain⟨l2,h2⟩:∃n,sd.length=n:=⟨_,rfl⟩;obtain⟨l3,h3⟩:∃n,mw.length=n:=⟨_,rfl⟩;obtain⟨l4,h4⟩:∃n,ac.length=n:=⟨_,rfl⟩;rw[h1,h2,h3,h4]at hW1 k2;try rw[h1]at hR
 try rw[h2]at hR
 try rw[h3]at hR
 try rw[h4]at hR
 rw[h1,h2,h3,h4];clear h1 h2 h3 h4;have x0:=k1.cell 0;have q0:=k2.cell 0;have q1:=k2.cell 1;have q2:=k2.cell 2;have q3:=k2.cell 3;have q4:=k2.cell 4;have q5:=k2.cell 5;have q6:=k2.cell 6;have q7:=k2.cell 7;have q8:=k2.cell 8;have q9:=k2.cell 9;have q10:=k2.cell 10;have q11:=k2.cell 11;have q12:=k2.cell 12;have q13:=k2.cell 13;have q14:=k2.cell 14;have q15:=k2.cell 15;simp only[zrD]at x0 q0 q1 q2 q3 q4 q5 q6 q7 q8 q9 q10 q11 q12 q13 q14 q15;by_cases d0:l1=0
 ·subst d0;by_cases d1:sb=0
  ·subst d1;by_cases d2:l2=0
   ·subst d2;by_cases d3:slot=0
    ·subst d3;go_enter Tryz.func79,Tryz.ntmps79;go_wp2_with (rw[hW1]);refine(HS.out _ B1).mono ?_;rintro e w5 ⟨rfl,hb5⟩;have B5:=zA B1 hb5;have kk1:=k1.step hb5;have kk2:=k2.step hb5;clear x0 q0 q1 q2 q3 q4 q5 q6 q7 q8 q9 q10 q11 q12 q13 q14 q15;have x0:=kk1.cell 0;have q0:=kk2.cell 0;have q1:=kk2.cell 1;have q2:=kk2.cell 2;have q3:=kk2.cell 3;have q4:=kk2.cell 4;have q5:=kk2.cell 5;have q6:=kk2.cell 6;have q7:=kk2.cell 7;have q8:=kk2.cell 8;have q9:=kk2.cell 9;have q10:=kk2.cell 10;have q11:=kk2.cell 11;have q12:=kk2.cell 12;have q13:=kk2.cell 13;have q14:=kk2.cell 14;have q15:=kk2.cell 15;simp only[zrD]at x0 q0 q1 q2 q3 q4 q5 q6 q7 q8 q9 q10 q11 q12 q13 q14 q15;clear kk1 kk2 k1 k2;cases nm with
     | false=>
       obtain rfl:R=false:=by rw[←hR];simp
       clear hR;go_wp2;go_returns;exact⟨by first|rfl|simp,B5⟩
     | true=>
       by_cases d5:mi=0
       ·subst d5;by_cases d6:l3=0
        ·subst d6;by_cases d7:l4=0
         ·subst d7;obtain rfl:R=true:=by rw[←hR];simp[*]
          clear hR;go_wp2;go_returns;exact⟨by first|rfl|simp,B5⟩
         ·obtain rfl:R=false:=by rw[←hR];simp[d7]
          clear hR;have e7:(0:Int)<(l4:Int):=by omega
          have f7:((l4:Int)==0)=false:=by simp[d7]
          go_wp2;go_returns;exact⟨by first|rfl|simp,B5⟩
        ·obtain rfl:R=false:=by rw[←hR];simp[d6]
         clear hR;have e6:(0:Int)<(l3:Int):=by omega
         have f6:((l3:Int)==0)=false:=by simp[d6]
         go_wp2;go_returns;exact⟨by first|rfl|simp,B5⟩
       ·obtain rfl:R=false:=by rw[←hR];simp[d5]
        clear hR;have e5:(mi==0)=false:=by simp[d5]
        go_wp2;go_returns;exact⟨by first|rfl|simp,B5⟩
    ·obtain rfl:R=false:=by rw[←hR];simp[d3]
     clear hR;have e3:(slot==0)=false:=by simp[d3]
     go_enter Tryz.func79,Tryz.ntmps79;go_wp2_with (rw[hW1]);go_returns;exact⟨by first|rfl|simp,B1⟩
   ·obtain rfl:R=false:=by rw[←hR];simp[d2]
    clear hR;have e2:(0:Int)<(l2:Int):=by omega
    have f2:((l2:Int)==0)=false:=by simp[d2]
    go_enter Tryz.func79,Tryz.ntmps79;go_wp2_with (rw[hW1]);go_returns;exact⟨by first|rfl|simp,B1⟩
  ·obtain rfl:R=false:=by rw[←hR];simp[d1]
   clear hR;have e1:(sb==0)=false:=by simp[d1]
   go_enter Tryz.func79,Tryz.ntmps79;go_wp2_with (rw[hW1]);go_returns;exact⟨by first|rfl|simp,B1⟩
 ·obtain rfl:R=false:=by rw[←hR];simp[d0]
  clear hR;have e0:(0:Int)<(l1:Int):=by omega
  have f0:((l1:Int)==0)=false:=by simp[d0]
  go_enter Tryz.func79,Tryz.ntmps79;go_wp2_with (rw[hW1]);go_returns;exact⟨by first|rfl|simp,B1⟩
theorem rempty14_5(c:S14.C)(p:S14.P)(y:Lay)(w:World)(hP:PIs p y w)(hk:c.kind=5) :
 Calls Tryz.prog 79 #[CV c,PV p y] w fun e w'=>e = .returned (.bool (S14.bare {p with mi:=0,mw:=[]}))∧Below w.heap.size w w':=by
 have HS:=zD fun(W:World) (hW:Below w.heap.size w W)=>zcQ p.m y.pl W (hP.mch.step hW);obtain⟨R,hR⟩:∃R,S14.bare {p with mi:=0,mw:=[]}=R:=⟨_,rfl⟩;rw[hR];unfold S14.bare at hR;try simp only at hR
 obtain⟨nm,hnm⟩:∃b,S14.noM p.m=b:=⟨_,rfl⟩;rw[hnm]at hR HS;clear hnm;obtain⟨W1,hW1,k1,k2,B1⟩:=zbO w c 54 p y;clear hP;obtain⟨kind,bits,limit,rate,first,second⟩:=c;simp only at hk;subst hk;unfold CV PV;unfold zT at *;unfold yG at *;unfold MV zbQ at HS;obtain⟨ctrs,sb,sd,slot,⟨bits',least,heads,bytes,at_,len,part,bit,mctrs⟩,mi,mw,ac⟩:=p;obtain⟨a1,c1,a2,c2,pl,a3,c3,a4,c4⟩:=y;simp only at hR HS hW1 k1 k2⊢;obtain⟨l1,h1⟩:∃n,ctrs.length=n:=⟨_,rfl⟩;obtain⟨l2,h2⟩:∃n,sd.length=n:=⟨_,rfl⟩;obtain⟨l3,h3⟩:∃n,mw.length=n:=⟨_,rfl⟩;obtain⟨l4,h4⟩:∃n,ac.length=n:=⟨_,rfl⟩;rw[h1,h2,h3,h4]at hW1 k2;try rw[h1]at hR
 try rw[h2]at hR
 try rw[h3]at hR
 try rw[h4]at hR
 rw[h1,h2,h3,h4];clear h1 h2 h3 h4;have x0:=k1.cell 0;have q0:=k2.cell 0;have q1:=k2.cell 1;have q2:=k2.cell 2;have q3:=k2.cell 3;have q4:=k2.cell 4;have q5:=k2.cell 5;have q6:=k2.cell 6;have q7:=k2.cell 7;have q8:=k2.cell 8;have q9:=k2.cell 9;have q10:=k2.cell 10;have q11:=k2.cell 11;have q12:=k2.cell 12;have q13:=k2.cell 13;have q14:=k2.cell 14;have q15:=k2.cell 15;simp only[zrD]at x0 q0 q1 q2 q3 q4 q5 q6 q7 q8 q9 q10 q11 q12 q13 q14 q15;by_cases d0:l1=0
 ·subst d0;by_cases d1:sb=0
  ·subst d1;by_cases d2:l2=0
   ·subst d2;by_cases d3:slot=0
    ·subst d3;go_enter Tryz.func79,Tryz.ntmps79;go_wp2_with (rw[hW1]);refine(HS.out _ B1).mono ?_;rintro e w5 ⟨rfl,hb5⟩;have B5:=zA B1 hb5;have kk1:=k1.step hb5;have kk2:=k2.step hb5;clear x0 q0 q1 q2 q3 q4 q5 q6 q7 q8 q9 q10 q11 q12 q13 q14 q15;have x0:=kk1.cell 0;have q0:=kk2.cell 0;have q1:=kk2.cell 1;have q2:=kk2.cell 2;have q3:=kk2.cell 3;have q4:=kk2.cell 4;have q5:=kk2.cell 5;have q6:=kk2.cell 6;have q7:=kk2.cell 7;have q8:=kk2.cell 8;have q9:=kk2.cell 9;have q10:=kk2.cell 10;have q11:=kk2.cell 11;have q12:=kk2.cell 12;have q13:=kk2.cell 13;have q14:=kk2.cell 14;have q15:=kk2.cell 15;simp only[zrD]at x0 q0 q1 q2 q3 q4 q5 q6 q7 q8 q9 q10 q11 q12 q13 q14 q15;clear kk1 kk2 k1 k2;cases nm with
     | false=>
       obtain rfl:R=false:=by rw[←hR];simp
       clear hR;go_wp2;go_returns;exact⟨by first|rfl|simp,B5⟩
     | true=>
       by_cases d5:l4=0
       ·subst d5;obtain rfl:R=true:=by rw[←hR];simp[*]
        clear hR;go_wp2;go_returns;exact⟨by first|rfl|simp,B5⟩
       ·obtain rfl:R=false:=by rw[←hR];simp[d5]
        clear hR;have e5:(0:Int)<(l4:Int):=by omega
        have f5:((l4:Int)==0)=false:=by simp[d5]
        go_wp2;go_returns;exact⟨by first|rfl|simp,B5⟩
    ·obtain rfl:R=false:=by rw[←hR];simp[d3]
     clear hR;have e3:(slot==0)=false:=by simp[d3]
     go_enter Tryz.func79,Tryz.ntmps79;go_wp2_with (rw[hW1]);go_returns;exact⟨by first|rfl|simp,B1⟩
   ·obtain rfl:R=false:=by rw[←hR];simp[d2]
    clear hR;have e2:(0:Int)<(l2:Int):=by omega
    have f2:((l2:Int)==0)=false:=by simp[d2]
    go_enter Tryz.func79,Tryz.ntmps79;go_wp2_with (rw[hW1]);go_returns;exact⟨by first|rfl|simp,B1⟩
  ·obtain rfl:R=false:=by rw[←hR];simp[d1]
   clear hR;have e1:(sb==0)=false:=by simp[d1]
   go_enter Tryz.func79,Tryz.ntmps79;go_wp2_with (rw[hW1]);go_returns;exact⟨by first|rfl|simp,B1⟩
 ·obtain rfl:R=false:=by rw[←hR];simp[d0]
  clear hR;have e0:(0:Int)<(l1:Int):=by omega
  have f0:((l1:Int)==0)=false:=by simp[d0]
  go_enter Tryz.func79,Tryz.ntmps79;go_wp2_with (rw[hW1]);go_returns;exact⟨by first|rfl|simp,B1⟩
theorem rempty14_6(c:S14.C)(p:S14.P)(y:Lay)(w:World)(hP:PIs p y w)(hk:c.kind=6) :
 Calls Tryz.prog 79 #[CV c,PV p y] w fun e w'=>e = .returned (.bool (S14.bare {p with ac:=[]}))∧Below w.heap.size w w':=by
 have HS:=zD fun(W:World) (hW:Below w.heap.size w W)=>zcQ p.m y.pl W (hP.mch.step hW);obtain⟨R,hR⟩:∃R,S14.bare {p with ac:=[]}=R:=⟨_,rfl⟩;rw[hR];unfold S14.bare at hR;try simp only at hR
 obtain⟨nm,hnm⟩:∃b,S14.noM p.m=b:=⟨_,rfl⟩;rw[hnm]at hR HS;clear hnm;obtain⟨W1,hW1,k1,k2,B1⟩:=zbO w c 54 p y;clear hP;obtain⟨kind,bits,limit,rate,first,second⟩:=c;simp only at hk;subst hk;unfold CV PV;unfold zT at *;unfold yG at *;unfold MV zbQ at HS;obtain⟨ctrs,sb,sd,slot,⟨bits',least,heads,bytes,at_,len,part,bit,mctrs⟩,mi,mw,ac⟩:=p;obtain⟨a1,c1,a2,c2,pl,a3,c3,a4,c4⟩:=y;simp only at hR HS hW1 k1 k2⊢;obtain⟨l1,h1⟩:∃n,ctrs.length=n:=⟨_,rfl⟩;obtain⟨l2,h2⟩:∃n,sd.length=n:=⟨_,rfl⟩;obtain⟨l3,h3⟩:∃n,mw.length=n:=⟨_,rfl⟩;obtain⟨l4,h4⟩:∃n,ac.length=n:=⟨_,rfl⟩;rw[h1,h2,h3,h4]at hW1 k2;try rw[h1]at hR
 try rw[h2]at hR
 try rw[h3]at hR
 try rw[h4]at hR
 rw[h1,h2,h3,h4];clear h1 h2 h3 h4;have x0:=k1.cell 0;have q0:=k2.cell 0;have q1:=k2.cell 1;have q2:=k2.cell 2;have q3:=k2.cell 3;have q4:=k2.cell 4;have q5:=k2.cell 5;have q6:=k2.cell 6;have q7:=k2.cell 7;have q8:=k2.cell 8;have q9:=k2.cell 9;have q10:=k2.cell 10;have q11:=k2.cell 11;have q12:=k2.cell 12;have q13:=k2.cell 13;have q14:=k2.cell 14;have q15:=k2.cell 15;simp only[zrD]at x0 q0 q1 q2 q3 q4 q5 q6 q7 q8 q9 q10 q11 q12 q13 q14 q15;by_cases d0:l1=0
 ·subst d0;by_cases d1:sb=0
  ·subst d1;by_cases d2:l2=0
   ·subst d2;by_cases d3:slot=0
    ·subst d3;go_enter Tryz.func79,Tryz.ntmps79;go_wp2_with (rw[hW1]);refine(HS.out _ B1).mono ?_;rintro e w5 ⟨rfl,hb5⟩;have B5:=zA B1 hb5;have kk1:=k1.step hb5;have kk2:=k2.step hb5;clear x0 q0 q1 q2 q3 q4 q5 q6 q7 q8 q9 q10 q11 q12 q13 q14 q15;have x0:=kk1.cell 0;have q0:=kk2.cell 0;have q1:=kk2.cell 1;have q2:=kk2.cell 2;have q3:=kk2.cell 3;have q4:=kk2.cell 4;have q5:=kk2.cell 5;have q6:=kk2.cell 6;have q7:=kk2.cell 7;have q8:=kk2.cell 8;have q9:=kk2.cell 9;have q10:=kk2.cell 10;have q11:=kk2.cell 11;have q12:=kk2.cell 12;have q13:=kk2.cell 13;have q14:=kk2.cell 14;have q15:=kk2.cell 15;simp only[zrD]at x0 q0 q1 q2 q3 q4 q5 q6 q7 q8 q9 q10 q11 q12 q13 q14 q15;clear kk1 kk2 k1 k2;cases nm with
     | false=>
       obtain rfl:R=false:=by rw[←hR];simp
       clear hR;go_wp2;go_returns;exact⟨by first|rfl|simp,B5⟩
     | true=>
       by_cases d5:mi=0
       ·subst d5;by_cases d6:l3=0
        ·subst d6;obtain rfl:R=true:=by rw[←hR];simp[*]
         clear hR;go_wp2;go_returns;exact⟨by first|rfl|simp,B5⟩
        ·obtain rfl:R=false:=by rw[←hR];simp[d6]
         clear hR;have e6:(0:Int)<(l3:Int):=by omega
         have f6:((l3:Int)==0)=false:=by simp[d6]
         go_wp2;go_returns;exact⟨by first|rfl|simp,B5⟩
       ·obtain rfl:R=false:=by rw[←hR];simp[d5]
        clear hR;have e5:(mi==0)=false:=by simp[d5]
        go_wp2;go_returns;exact⟨by first|rfl|simp,B5⟩
    ·obtain rfl:R=false:=by rw[←hR];simp[d3]
     clear hR;have e3:(slot==0)=false:=by simp[d3]
     go_enter Tryz.func79,Tryz.ntmps79;go_wp2_with (rw[hW1]);go_returns;exact⟨by first|rfl|simp,B1⟩
   ·obtain rfl:R=false:=by rw[←hR];simp[d2]
    clear hR;have e2:(0:Int)<(l2:Int):=by omega
    have f2:((l2:Int)==0)=false:=by simp[d2]
    go_enter Tryz.func79,Tryz.ntmps79;go_wp2_with (rw[hW1]);go_returns;exact⟨by first|rfl|simp,B1⟩
  ·obtain rfl:R=false:=by rw[←hR];simp[d1]
   clear hR;have e1:(sb==0)=false:=by simp[d1]
   go_enter Tryz.func79,Tryz.ntmps79;go_wp2_with (rw[hW1]);go_returns;exact⟨by first|rfl|simp,B1⟩
 ·obtain rfl:R=false:=by rw[←hR];simp[d0]
  clear hR;have e0:(0:Int)<(l1:Int):=by omega
  have f0:((l1:Int)==0)=false:=by simp[d0]
  go_enter Tryz.func79,Tryz.ntmps79;go_wp2_with (rw[hW1]);go_returns;exact⟨by first|rfl|simp,B1⟩
