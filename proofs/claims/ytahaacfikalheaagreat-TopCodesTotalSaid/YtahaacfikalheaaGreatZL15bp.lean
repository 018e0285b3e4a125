/- A part of the proof of L15. No condition. -/
import Derived.Great.BuildSlice
import Derived.Test.YtahaacfikalheaaGreatZL15bk
set_option linter.all false
set_option maxRecDepth 100000
set_option maxHeartbeats 2000000
namespace Go.Proofs.YtahaacfikalheaaGreat
open Go.RowKit
theorem zhI(c:S14.C)(w:World):Calls Tryz.prog 102 #[CV c] w fun e w'=>e = .returned (PV S14.P0 zdO)∧Below w.heap.size w w':=by
 obtain⟨W1,hW1⟩:∃W1,(w.alloc (.cells (zZ c).toArray 111)).alloc (.cells zP 78)=W1:=⟨_,rfl⟩;have k2:Blk W1 (w.heap.size+1) (yL S14.P0 zdO) 78:=by
  rw[←hW1];have h:=zeH (w.alloc (.cells (zZ c).toArray 111));rwa[zV]at h
 have B1:Below w.heap.size w W1:=by rw[←hW1];exact((zF _ _).alloc (zD _) _).alloc (by simp) _
 have hPl:some 16=some (yL S14.P0 zdO).length:=rfl;unfold CV;go_enter Tryz.func102,Tryz.ntmps102;go_wp2_with (first
  | (refine zaB 78 zP zcS (by rfl) (by rfl) ?_;rw[hW1])
  | (refine zT 78 (.tmp 2) (.tmp 3) (by rfl) (by rfl) (w.heap.size+1) (by rfl) (yL S14.P0 zdO) (by rfl) _ 78 k2 (info_P.trans hPl) rfl (zaM _ _) ?_;intro wL EL gL sL))
 have hL:=run_loadVar_mid wL _ 0 _ _ _ EL.cells Tryz.underlying78 rfl (info_P.trans hPl);refine bodyPost_ret (v:=PV S14.P0 zdO) ?_ rfl ?_
 ·exact zbH (show Tryz.f102.results = #[.cell 2 78]from rfl) (p:=⟨w.heap.size+1,0,none⟩) rfl hL
 ·exact⟨rfl,B1.trans (yG gL (by omega) B1.size)⟩
theorem znW(N:S14.N)(L:NLay)(k:Nat)(c:S14.C)(b:Value)(hb:b.oneCell'=true)(bit:Int)(w:World)(hN:NIs N L w)(hk:k<N.parts.length)(p:S14.P)(y:Lay)(hp:N.parts[k]? = some p)(hy:L.ys[k]? = some y) :
 Calls Tryz.prog 103 #[CV c,VV N L k b,.int .i64 bit] w fun e w'=>e = .returned (.tuple #[PV p y,.int .i64 0])∧Below w.heap.size w w':=by
 have HP:=zB fun(W:World) (hW:Below w.heap.size w W)=>zbW N L k b hb W (hN.step hW) hk p y hp hy;unfold VV at HP⊢;obtain⟨nc,hnc⟩:∃n,N.comps.length=n:=⟨_,rfl⟩;obtain⟨np,hnp⟩:∃n,N.parts.length=n:=⟨_,rfl⟩;obtain⟨nx,hnx⟩:∃n,N.ctxs.length=n:=⟨_,rfl⟩;obtain⟨pt,hpt⟩:∃n,N.part=n:=⟨_,rfl⟩;rw[hnc,hnp,hnx,hpt]at HP⊢;clear hnc hnp hnx hpt hk hN hp hy hb;have hPl:some 16=some (yL p y).length:=rfl;have h1:=zaM p y;have hPl2:(yL S14.P0 zdO).length=(yL p y).length:=rfl;unfold PV at HP⊢;obtain⟨Q,hQ⟩:∃Q,yL p y=Q:=⟨_,rfl⟩;rw[hQ]at HP hPl hPl2 h1⊢;clear hQ;obtain⟨W1,hW1⟩:∃W1,((w.alloc (.cells (zZ c).toArray 111)).alloc (.cells #[.slice L.a1 nc L.c1,.slice L.a2 np L.c2,.slice L.a3 nx L.c3,.int .i64 pt,.int .i64 (k:Int),b] 102)).alloc (.cells zP 78)=W1:=⟨_,rfl⟩;have k1:Blk W1 (w.heap.size+1) [.slice L.a1 nc L.c1,.slice L.a2 np L.c2,.slice L.a3 nx L.c3,.int .i64 pt,.int .i64 (k:Int),b] 102:=by
  rw[←hW1];have h:=(Blk.new (w.alloc (.cells (zZ c).toArray 111)) [.slice L.a1 nc L.c1,.slice L.a2 np L.c2,.slice L.a3 nx L.c3,.int .i64 pt,.int .i64 (k:Int),b] 102).alloc (.cells zP 78);rwa[zV]at h
 have k2:Blk W1 (w.heap.size+1+1) (yL S14.P0 zdO) 78:=by
  rw[←hW1];have h:=zeH ((w.alloc (.cells (zZ c).toArray 111)).alloc (.cells #[.slice L.a1 nc L.c1,.slice L.a2 np L.c2,.slice L.a3 nx L.c3,.int .i64 pt,.int .i64 (k:Int),b] 102));rwa[zV,zV]at h
 have B1:Below w.heap.size w W1:=by rw[←hW1];exact(((zF _ _).alloc (zD _) _).alloc (by simp) _).alloc (by simp;omega) _
 have e0:=k1.cell 0;have e1:=k1.cell 1;have e2:=k1.cell 2;have e3:=k1.cell 3;have e4:=k1.cell 4;have e5:=k1.cell 5;simp only[zuK]at e0 e1 e2 e3 e4 e5;unfold CV;go_enter Tryz.func103,Tryz.ntmps103;go_wp2_with (first
  | (refine zaB 78 zP zcS (by rfl) (by rfl) ?_;rw[hW1])
  | fail)
 refine(HP.out _ B1).mono ?_;rintro e w2 ⟨rfl,hb2⟩;have k22:=k2.step hb2;have B2:=zA B1 hb2;go_wp2_with (first
  | (refine zT 78 (.tmp 6) (.tmp 9) (by rfl) (by rfl) (w.heap.size+1+1) (by rfl) Q (by rfl) _ 78 k22 (info_P.trans hPl) hPl2 h1 ?_;intro wL EL gL sL))
 have hL:=run_loadVar_mid wL _ 0 _ _ _ EL.cells Tryz.underlying78 rfl (info_P.trans hPl);refine bodyPost_ret (v:=.tuple #[.agg Q.toArray,.int .i64 0]) ?_ rfl ?_
 ·exact zaI (show Tryz.f103.results = #[.cell 6 78,.tmp 7]from rfl) (p:=⟨w.heap.size+1+1,0,none⟩) rfl rfl hL
 ·exact⟨rfl,B2.trans (yG gL (by omega) B2.size)⟩
theorem ziF(c:S14.C)(w:World):Calls Tryz.prog 188 #[CV c] w fun e w'=>e = .returned (PV S14.P0 zdO)∧Below w.heap.size w w':=by
 obtain⟨W1,hW1⟩:∃W1,(w.alloc (.cells (zZ c).toArray 115)).alloc (.cells zP 78)=W1:=⟨_,rfl⟩;have k2:Blk W1 (w.heap.size+1) (yL S14.P0 zdO) 78:=by
  rw[←hW1];have h:=zeH (w.alloc (.cells (zZ c).toArray 115));rwa[zV]at h
 have B1:Below w.heap.size w W1:=by rw[←hW1];exact((zF _ _).alloc (zD _) _).alloc (by simp) _
 have hPl:some 16=some (yL S14.P0 zdO).length:=rfl;unfold CV;go_enter Tryz.func188,Tryz.ntmps188;go_wp2_with (first
  | (refine zaB 78 zP zcS (by rfl) (by rfl) ?_;rw[hW1])
  | (refine zT 78 (.tmp 2) (.tmp 3) (by rfl) (by rfl) (w.heap.size+1) (by rfl) (yL S14.P0 zdO) (by rfl) _ 78 k2 (info_P.trans hPl) rfl (zaM _ _) ?_;intro wL EL gL sL))
 have hL:=run_loadVar_mid wL _ 0 _ _ _ EL.cells Tryz.underlying78 rfl (info_P.trans hPl);refine bodyPost_ret (v:=PV S14.P0 zdO) ?_ rfl ?_
 ·exact zbH (show Tryz.f188.results = #[.cell 2 78]from rfl) (p:=⟨w.heap.size+1,0,none⟩) rfl hL
 ·exact⟨rfl,B1.trans (yG gL (by omega) B1.size)⟩
theorem zqV(N:S14.N)(L:NLay)(k:Nat)(c:S14.C)(b:Value)(hb:b.oneCell'=true)(bit:Int)(w:World)(hN:NIs N L w)(hk:k<N.parts.length)(p:S14.P)(y:Lay)(hp:N.parts[k]? = some p)(hy:L.ys[k]? = some y) :
 Calls Tryz.prog 189 #[CV c,VV N L k b,.int .i64 bit] w fun e w'=>e = .returned (.tuple #[PV p y,.int .i64 0])∧Below w.heap.size w w':=by
 have HP:=zB fun(W:World) (hW:Below w.heap.size w W)=>zbW N L k b hb W (hN.step hW) hk p y hp hy;unfold VV at HP⊢;obtain⟨nc,hnc⟩:∃n,N.comps.length=n:=⟨_,rfl⟩;obtain⟨np,hnp⟩:∃n,N.parts.length=n:=⟨_,rfl⟩;obtain⟨nx,hnx⟩:∃n,N.ctxs.length=n:=⟨_,rfl⟩;obtain⟨pt,hpt⟩:∃n,N.part=n:=⟨_,rfl⟩;rw[hnc,hnp,hnx,hpt]at HP⊢;clear hnc hnp hnx hpt hk hN hp hy hb;have hPl:some 16=some (yL p y).length:=rfl;have h1:=zaM p y;have hPl2:(yL S14.P0 zdO).length=(yL p y).length:=rfl;unfold PV at HP⊢;obtain⟨Q,hQ⟩:∃Q,yL p y=Q:=⟨_,rfl⟩;rw[hQ]at HP hPl hPl2 h1⊢;clear hQ;obtain⟨W1,hW1⟩:∃W1,((w.alloc (.cells (zZ c).toArray 115)).alloc (.cells #[.slice L.a1 nc L.c1,.slice L.a2 np L.c2,.slice L.a3 nx L.c3,.int .i64 pt,.int .i64 (k:Int),b] 102)).alloc (.cells zP 78)=W1:=⟨_,rfl⟩;have k1:Blk W1 (w.heap.size+1) [.slice L.a1 nc L.c1,.slice L.a2 np L.c2,.slice L.a3 nx L.c3,.int .i64 pt,.int .i64 (k:Int),b] 102:=by
  rw[←hW1];have h:=(Blk.new (w.alloc (.cells (zZ c).toArray 115)) [.slice L.a1 nc L.c1,.slice L.a2 np L.c2,.slice L.a3 nx L.c3,.int .i64 pt,.int .i64 (k:Int),b] 102).alloc (.cells zP 78);rwa[zV]at h
 have k2:Blk W1 (w.heap.size+1+1) (yL S14.P0 zdO) 78:=by
  rw[←hW1];have h:=zeH ((w.alloc (.cells (zZ c).toArray 115)).alloc (.cells #[.slice L.a1 nc L.c1,.slice L.a2 np L.c2,.slice L.a3 nx L.c3,.int .i64 pt,.int .i64 (k:Int),b] 102));rwa[zV,zV]at h
 have B1:Below w.heap.size w W1:=by rw[←hW1];exact(((zF _ _).alloc (zD _) _).alloc (by simp) _).alloc (by simp;omega) _
 have e0:=k1.cell 0;have e1:=k1.cell 1;have e2:=k1.cell 2;have e3:=k1.cell 3;have e4:=k1.cell 4;have e5:=k1.cell 5;simp only[zuK]at e0 e1 e2 e3 e4 e5;unfold CV;go_enter Tryz.func189,Tryz.ntmps189;go_wp2_with (first
  | (refine zaB 78 zP zcS (by rfl) (by rfl) ?_;rw[hW1])
  | fail)
 refine(HP.out _ B1).mono ?_;rintro e w2 ⟨rfl,hb2⟩;have k22:=k2.step hb2;have B2:=zA B1 hb2;go_wp2_with (first
  | (refine zT 78 (.tmp 6) (.tmp 9) (by rfl) (by rfl) (w.heap.size+1+1) (by rfl) Q (by rfl) _ 78 k22 (info_P.trans hPl) hPl2 h1 ?_;intro wL EL gL sL))
 have hL:=run_loadVar_mid wL _ 0 _ _ _ EL.cells Tryz.underlying78 rfl (info_P.trans hPl);refine bodyPost_ret (v:=.tuple #[.agg Q.toArray,.int .i64 0]) ?_ rfl ?_
 ·exact zaI (show Tryz.f189.results = #[.cell 6 78,.tmp 7]from rfl) (p:=⟨w.heap.size+1+1,0,none⟩) rfl rfl hL
 ·exact⟨rfl,B2.trans (yG gL (by omega) B2.size)⟩
theorem const14_out(c:S14.C)(N:S14.N)(L:NLay)(k:Nat)(b:Value)(w:World) :
 Calls Tryz.prog 105 #[CV c,VV N L k b] w fun e w'=>e = .returned (.int .i64 (S06.stretch c.limit))∧Below w.heap.size w w':=by
 have HS:=zB fun W=>zdI c.limit W;unfold CV zZ VV;obtain⟨kind,bits,limit,rate,first,second⟩:=c;simp only at HS⊢;go_enter Tryz.func105,Tryz.ntmps105;go_wp2_with fail;refine(HS.out _).mono ?_;rintro e w2 ⟨rfl,hb2⟩;have B2:Below w.heap.size w w2:=zA (by go_grown) hb2;go_wp2;go_returns;exact⟨rfl,B2⟩
theorem zhL(x:Int):IntKind.i64.wrap x=(x+9223372036854775808)%18446744073709551616-9223372036854775808:=by
 simp only[IntKind.wrap,IntKind.bits,IntKind.signed];simp;omega
theorem sum3_zero(a b c:Nat)(h1:a≤4611686018427387904)(h2:b≤4611686018427387904)(h3:c≤4611686018427387904):(IntKind.i64.wrap (IntKind.i64.wrap ((a:Int)+(b:Int))+(c:Int))==0)=decide (a+b+c=0):=by
 rw[zhL,zhL];by_cases h:a+b+c=0
 ·have ha:a=0:=by omega
  have hb:b=0:=by omega
  have hc:c=0:=by omega
  subst ha hb hc
  decide
 ·rw[yD h,beq_eq_false_iff_ne];intro e;omega
theorem ztI(m:S12.M)(p:Pl)(w:World)(h1:m.heads.length≤4611686018427387904)(h2:m.bytes.length≤4611686018427387904)(h3:m.ctrs.length≤4611686018427387904):Calls Tryz.prog 112 #[MV m p] w fun e w'=>e = .returned (.bool (S14.noM m))∧Below w.heap.size w w':=by
 obtain⟨bits,least,heads,bytes,at_,len,part,bit,ctrs⟩:=m;obtain⟨R,hR⟩:∃R,S14.noM ⟨bits,least,heads,bytes,at_,len,part,bit,ctrs⟩=R:=⟨_,rfl⟩;rw[hR];unfold S14.noM at hR;unfold MV zbJ;simp only at hR h1 h2 h3⊢;obtain⟨lh,hlh⟩:∃n,heads.length=n:=⟨_,rfl⟩;obtain⟨lb,hlb⟩:∃n,bytes.length=n:=⟨_,rfl⟩;obtain⟨lc,hlc⟩:∃n,ctrs.length=n:=⟨_,rfl⟩;rw[hlh,hlb,hlc]at hR;rw[hlh]at h1;rw[hlb]at h2;rw[hlc]at h3;rw[hlh,hlb,hlc];clear hlh hlb hlc;by_cases c1:bits=0
 ·have e1:(bits==0)=true:=by simp[c1]
  by_cases c2:least=0
  ·have e2:(least==0)=true:=by simp[c2]
   by_cases c3:at_=0
   ·have e3:(at_==0)=true:=by simp[c3]
    by_cases c4:len=0
    ·have e4:(len==0)=true:=by simp[c4]
     by_cases c5:part=0
     ·have e5:(part==0)=true:=by simp[c5]
      by_cases c6:bit=0
      ·have e6:(bit==0)=true:=by simp[c6]
       have e7:=sum3_zero lh lb lc h1 h2 h3;have hr:decide (lh+lb+lc=0)=R:=by rw[←hR];simp only[e1,e2,e3,e4,e5,e6,zcN]
       rw[hr]at e7;have E7:=zB e7;clear hR c1 c2 c3 c4 c5 c6 e7 hr;go_enter Tryz.func112,Tryz.ntmps112;go_wp2;go_returns;exact⟨zaP (by have h:=E7.out;rw[zhL,zhL]at h;unfold wrap64;exact h),by go_grown⟩
      ·obtain rfl:R=false:=by rw[←hR];simp[c6]
       clear hR;have e6:(bit==0)=false:=by simp[c6]
       go_enter Tryz.func112,Tryz.ntmps112;go_wp2;go_returns;exact⟨rfl,by go_grown⟩
     ·obtain rfl:R=false:=by rw[←hR];simp[c5]
      clear hR;have e5:(part==0)=false:=by simp[c5]
      go_enter Tryz.func112,Tryz.ntmps112;go_wp2;go_returns;exact⟨rfl,by go_grown⟩
    ·obtain rfl:R=false:=by rw[←hR];simp[c4]
     clear hR;have e4:(len==0)=false:=by simp[c4]
     go_enter Tryz.func112,Tryz.ntmps112;go_wp2;go_returns;exact⟨rfl,by go_grown⟩
   ·obtain rfl:R=false:=by rw[←hR];simp[c3]
    clear hR;have e3:(at_==0)=false:=by simp[c3]
    go_enter Tryz.func112,Tryz.ntmps112;go_wp2;go_returns;exact⟨rfl,by go_grown⟩
  ·obtain rfl:R=false:=by rw[←hR];simp[c2]
   clear hR;have e2:(least==0)=false:=by simp[c2]
   go_enter Tryz.func112,Tryz.ntmps112;go_wp2;go_returns;exact⟨rfl,by go_grown⟩
 ·obtain rfl:R=false:=by rw[←hR];simp[c1]
  clear hR;have e1:(bits==0)=false:=by simp[c1]
  go_enter Tryz.func112,Tryz.ntmps112;go_wp2;go_returns;exact⟨rfl,by go_grown⟩
theorem zeY(p:S14.P)(y:Lay)(w:World)(hm1:p.m.heads.length≤4611686018427387904)(hm2:p.m.bytes.length≤4611686018427387904)(hm3:p.m.ctrs.length≤4611686018427387904) :
 Calls Tryz.prog 109 #[PV p y] w fun e w'=>e = .returned (.bool (S14.bare p))∧Below w.heap.size w w':=by
 have HM:=zB fun W=>ztI p.m y.pl W hm1 hm2 hm3;obtain⟨R,hR⟩:∃R,S14.bare p=R:=⟨_,rfl⟩;rw[hR];unfold S14.bare at hR;obtain⟨nm,hnm⟩:∃b,S14.noM p.m=b:=⟨_,rfl⟩;rw[hnm]at hR HM;unfold PV yL;unfold MV zbJ at HM;obtain⟨ctrs,sb,sd,slot,m,mi,mw,ac⟩:=p;obtain⟨a1,c1,a2,c2,pl,a3,c3,a4,c4⟩:=y;obtain⟨bits,least,heads,bytes,at_,len,part,bit,mctrs⟩:=m;simp only at hR HM⊢;clear hm1 hm2 hm3 hnm;obtain⟨l1,h1⟩:∃n,ctrs.length=n:=⟨_,rfl⟩;obtain⟨l2,h2⟩:∃n,sd.length=n:=⟨_,rfl⟩;obtain⟨l3,h3⟩:∃n,mw.length=n:=⟨_,rfl⟩;obtain⟨l4,h4⟩:∃n,ac.length=n:=⟨_,rfl⟩;rw[h1,h2,h3,h4]at hR;rw[h1,h2,h3,h4];clear h1 h2 h3 h4;have B0:Below w.heap.size w (w.alloc (Obj.cells #[.slice a1 l1 c1,.int .i64 sb,.slice a2 l2 c2,.int .i64 slot,.int .i64 bits,.int .i64 least,.slice pl.ah heads.length pl.ch,.slice pl.ab bytes.length pl.cb,.int .i64 at_,.int .i64 len,.int .i64 part,.int .i64 bit,.slice pl.ac mctrs.length pl.cc,.int .i64 mi,.slice a3 l3 c3,.slice a4 l4 c4] 78)):=(zF _ _).alloc (zD _) _;have k0:=Blk.new w [.slice a1 l1 c1,.int .i64 sb,.slice a2 l2 c2,.int .i64 slot,.int .i64 bits,.int .i64 least,.slice pl.ah heads.length pl.ch,.slice pl.ab bytes.length pl.cb,.int .i64 at_,.int .i64 len,.int .i64 part,.int .i64 bit,.slice pl.ac mctrs.length pl.cc,.int .i64 mi,.slice a3 l3 c3,.slice a4 l4 c4] 78;obtain⟨W1,hW1⟩:∃W1,w.alloc (Obj.cells #[.slice a1 l1 c1,.int .i64 sb,.slice a2 l2 c2,.int .i64 slot,.int .i64 bits,.int .i64 least,.slice pl.ah heads.length pl.ch,.slice pl.ab bytes.length pl.cb,.int .i64 at_,.int .i64 len,.int .i64 part,.int .i64 bit,.slice pl.ac mctrs.length pl.cc,.int .i64 mi,.slice a3 l3 c3,.slice a4 l4 c4] 78)=W1:=⟨_,rfl⟩;rw[show(#[.slice a1 l1 c1,.int .i64 sb,.slice a2 l2 c2,.int .i64 slot,.int .i64 bits,.int .i64 least,.slice pl.ah heads.length pl.ch,.slice pl.ab bytes.length pl.cb,.int .i64 at_,.int .i64 len,.int .i64 part,.int .i64 bit,.slice pl.ac mctrs.length pl.cc,.int .i64 mi,.slice a3 l3 c3,.slice a4 l4 c4]:Array Value) = [.slice a1 l1 c1,.int .i64 sb,.slice a2 l2 c2,.int .i64 slot,.int .i64 bits,.int .i64 least,.slice pl.ah heads.length pl.ch,.slice pl.ab bytes.length pl.cb,.int .i64 at_,.int .i64 len,.int .i64 part,.int .i64 bit,.slice pl.ac mctrs.length pl.cc,.int .i64 mi,.slice a3 l3 c3,.slice a4 l4 c4].toArray from rfl]at hW1 B0;rw[hW1]at k0 B0;have q0:=k0.cell 0;have q1:=k0.cell 1;have q2:=k0.cell 2;have q3:=k0.cell 3;have q4:=k0.cell 4;have q5:=k0.cell 5;have q6:=k0.cell 6;have q7:=k0.cell 7;have q8:=k0.cell 8;have q9:=k0.cell 9;have q10:=k0.cell 10;have q11:=k0.cell 11;have q12:=k0.cell 12;have q13:=k0.cell 13;have q14:=k0.cell 14;have q15:=k0.cell 15;simp only[zuK]at q0 q1 q2 q3 q4 q5 q6 q7 q8 q9 q10 q11 q12 q13 q14 q15;clear k0;by_cases d0:l1=0
 ·have e0:((l1:Int)==0)=true:=by simp[d0]
  by_cases d1:sb=0
  ·have e1:(sb==0)=true:=by simp[d1]
   by_cases d2:l2=0
   ·have e2:((l2:Int)==0)=true:=by simp[d2]
    by_cases d3:slot=0
    ·have e3:(slot==0)=true:=by simp[d3]
     cases nm with
     | true=>
       by_cases d5:mi=0
       ·have e5:(mi==0)=true:=by simp[d5]
        by_cases d6:l3=0
        ·have e6:((l3:Int)==0)=true:=by simp[d6]
         by_cases d7:l4=0
         ·have e7:((l4:Int)==0)=true:=by simp[d7]
          obtain rfl:R=true:=by rw[←hR];simp[*]
          clear hR d0 d1 d2 d3 d5 d6 d7;go_enter Tryz.func109,Tryz.ntmps109;go_wp2_with (rw[hW1]);refine(HM.out _).mono ?_;rintro e w2 ⟨rfl,hb2⟩;have B2:=zA B0 hb2;have p13:=(hb2.cell (zL q13)).trans q13;have p14:=(hb2.cell (zL q14)).trans q14;have p15:=(hb2.cell (zL q15)).trans q15;go_wp2;go_returns;exact⟨rfl,B2⟩
         ·obtain rfl:R=false:=by rw[←hR];simp[d7]
          have e7:((l4:Int)==0)=false:=by simp[d7]
          clear hR d0 d1 d2 d3 d5 d6 d7;go_enter Tryz.func109,Tryz.ntmps109;go_wp2_with (rw[hW1]);refine(HM.out _).mono ?_;rintro e w2 ⟨rfl,hb2⟩;have B2:=zA B0 hb2;have p13:=(hb2.cell (zL q13)).trans q13;have p14:=(hb2.cell (zL q14)).trans q14;have p15:=(hb2.cell (zL q15)).trans q15;go_wp2;go_returns;exact⟨rfl,B2⟩
        ·obtain rfl:R=false:=by rw[←hR];simp[d6]
         have e6:((l3:Int)==0)=false:=by simp[d6]
         clear hR d0 d1 d2 d3 d5 d6;go_enter Tryz.func109,Tryz.ntmps109;go_wp2_with (rw[hW1]);refine(HM.out _).mono ?_;rintro e w2 ⟨rfl,hb2⟩;have B2:=zA B0 hb2;have p13:=(hb2.cell (zL q13)).trans q13;have p14:=(hb2.cell (zL q14)).trans q14;have p15:=(hb2.cell (zL q15)).trans q15;go_wp2;go_returns;exact⟨rfl,B2⟩
       ·obtain rfl:R=false:=by rw[←hR];simp[d5]
        have e5:(mi==0)=false:=by simp[d5]
        clear hR d0 d1 d2 d3 d5;go_enter Tryz.func109,Tryz.ntmps109;go_wp2_with (rw[hW1]);refine(HM.out _).mono ?_;rintro e w2 ⟨rfl,hb2⟩;have B2:=zA B0 hb2;have p13:=(hb2.cell (zL q13)).trans q13;have p14:=(hb2.cell (zL q14)).trans q14;have p15:=(hb2.cell (zL q15)).trans q15;go_wp2;go_returns;exact⟨rfl,B2⟩
     | false=>
       obtain rfl:R=false:=by rw[←hR];simp
       clear hR d0 d1 d2 d3;go_enter Tryz.func109,Tryz.ntmps109;go_wp2_with (rw[hW1]);refine(HM.out _).mono ?_;rintro e w2 ⟨rfl,hb2⟩;have B2:=zA B0 hb2;have p13:=(hb2.cell (zL q13)).trans q13;have p14:=(hb2.cell (zL q14)).trans q14;have p15:=(hb2.cell (zL q15)).trans q15;go_wp2;go_returns;exact⟨rfl,B2⟩
    ·obtain rfl:R=false:=by rw[←hR];simp[d3]
     have e3:(slot==0)=false:=by simp[d3]
     clear hR d0 d1 d2 d3;go_enter Tryz.func109,Tryz.ntmps109;go_wp2_with (rw[hW1]);go_returns;exact⟨rfl,B0⟩
   ·obtain rfl:R=false:=by rw[←hR];simp[d2]
    have e2:((l2:Int)==0)=false:=by simp[d2]
    clear hR d0 d1 d2;go_enter Tryz.func109,Tryz.ntmps109;go_wp2_with (rw[hW1]);go_returns;exact⟨rfl,B0⟩
  ·obtain rfl:R=false:=by rw[←hR];simp[d1]
   have e1:(sb==0)=false:=by simp[d1]
   clear hR d0 d1;go_enter Tryz.func109,Tryz.ntmps109;go_wp2_with (rw[hW1]);go_returns;exact⟨rfl,B0⟩
 ·obtain rfl:R=false:=by rw[←hR];simp[d0]
  have e0:((l1:Int)==0)=false:=by simp[d0]
  clear hR d0;go_enter Tryz.func109,Tryz.ntmps109;go_wp2_with (rw[hW1]);go_returns;exact⟨rfl,B0⟩
theorem zjM(w:World)(c:S14.C)(t:TypeId)(p:S14.P)(y:Lay):∃W1,(w.alloc (.cells (zZ c).toArray t)).alloc (.cells (yL p y).toArray 78)=W1∧Blk W1 w.heap.size (zZ c) t∧Blk W1 (w.heap.size+1) (yL p y) 78∧Below w.heap.size w W1:=by
 refine⟨_,rfl,(Blk.new w _ _).alloc _,?_,((zF _ _).alloc (zD _) _).alloc (by simp) _⟩;have h:=Blk.new (w.alloc (.cells (zZ c).toArray t)) (yL p y) 78;rwa[zV]at h
theorem znV(c:S14.C)(p:S14.P)(y:Lay)(pt:Int)(w:World)(hP:PIs p y w) :
 Calls Tryz.prog 106 #[CV c,PV p y,.int .i64 pt] w fun e w'=>e = .returned (.bool (S14.bare p))∧Below w.heap.size w w':=by
 have HB:=zB fun W=>zeY p y W hP.mch.lh hP.mch.lb hP.mch.lc;obtain⟨W1,hW1,k1,k2,B1⟩:=zjM w c 111 p y;have hPl:some 16=some (yL p y).length:=rfl;unfold PV at HB⊢;unfold CV;obtain⟨Q,hQ⟩:∃Q,yL p y=Q:=⟨_,rfl⟩;obtain⟨R,hR⟩:∃R,S14.bare p=R:=⟨_,rfl⟩;rw[hQ]at HB k2 hPl hW1⊢;rw[hR]at HB⊢;clear hQ hP hR;go_enter Tryz.func106,Tryz.ntmps106;go_wp2_with (first
  | (rw[hW1])
  | (refine yA 78 (.tmp 4) (by rfl) (by rfl) (w.heap.size+1) (by rfl) Q 78 k2 _ Tryz.underlying78 rfl (info_P.trans hPl) ?_))
 refine(HB.out _).mono ?_;rintro e w2 ⟨rfl,hb2⟩;have B2:=zA B1 hb2;go_wp2;go_returns;exact⟨rfl,B2⟩
theorem zqU(c:S14.C)(p:S14.P)(y:Lay)(pt:Int)(w:World)(hP:PIs p y w) :
 Calls Tryz.prog 192 #[CV c,PV p y,.int .i64 pt] w fun e w'=>e = .returned (.bool (S14.bare p))∧Below w.heap.size w w':=by
 have HB:=zB fun W=>zeY p y W hP.mch.lh hP.mch.lb hP.mch.lc;obtain⟨W1,hW1,k1,k2,B1⟩:=zjM w c 115 p y;have hPl:some 16=some (yL p y).length:=rfl;unfold PV at HB⊢;unfold CV;obtain⟨Q,hQ⟩:∃Q,yL p y=Q:=⟨_,rfl⟩;obtain⟨R,hR⟩:∃R,S14.bare p=R:=⟨_,rfl⟩;rw[hQ]at HB k2 hPl hW1⊢;rw[hR]at HB⊢;clear hQ hP hR;go_enter Tryz.func192,Tryz.ntmps192;go_wp2_with (first
  | (rw[hW1])
  | (refine yA 78 (.tmp 4) (by rfl) (by rfl) (w.heap.size+1) (by rfl) Q 78 k2 _ Tryz.underlying78 rfl (info_P.trans hPl) ?_))
 refine(HB.out _).mono ?_;rintro e w2 ⟨rfl,hb2⟩;have B2:=zA B1 hb2;go_wp2;go_returns;exact⟨rfl,B2⟩
theorem zoF{x l:Int}(h1 : -3071≤x)(h2:x≤3071)(h3:0≤l) : -3071*l≤x*l∧x*l≤3071*l:=
 ⟨Int.mul_le_mul_of_nonneg_right h1 h3,Int.mul_le_mul_of_nonneg_right h2 h3⟩
def S14.avg(c:S14.C)(bef:List Int):Int:=S06.round (bef.getD c.first.toNat 0*c.limit+bef.getD c.second.toNat 0*(256-c.limit)) 256
theorem zkL{bef:List Int}(h:∀x∈bef,-3071≤x∧x≤3071)(i:Nat) : -3071≤bef.getD i 0∧bef.getD i 0≤3071:=by
 rw[zI];cases hh:bef[i]? with
 | none=>simp
 | some x=>exact h x (zdB hh)
theorem S14.avg_in{c:S14.C}{bef:List Int}(h:∀x∈bef,-3071≤x∧x≤3071)(hl:0≤c.limit∧c.limit≤256) : -3071≤S14.avg c bef∧S14.avg c bef≤3071:=by
 unfold S14.avg;have h1:=zkL h c.first.toNat;have h2:=zkL h c.second.toNat;have m1:=zoF h1.1 h1.2 hl.1;have m2:=zoF (l:=256-c.limit) h2.1 h2.2 (by omega);generalize bef.getD c.first.toNat 0*c.limit=A at *;generalize bef.getD c.second.toNat 0*(256-c.limit)=B at *;unfold S06.round;split<;>omega
theorem zuB(c:S14.C)(N:S14.N)(L:NLay)(k:Nat)(a:Option Addr)(cb:Nat)(bef:List Int)(w:World)(hb:∀x∈bef,-3071≤x∧x≤3071)(hl:0≤c.limit∧c.limit≤256)(hf:0≤c.first∧c.first<bef.length)(hs:0≤c.second∧c.second<bef.length)(hrd:Rd w a (zaK bef)) :
 Calls Tryz.prog 191 #[CV c,VV N L k (.slice a bef.length cb)] w fun e w'=>e = .returned (.int .i64 (S14.avg c bef))∧Below w.heap.size w w':=by
 obtain⟨kind,bits,limit,rate,first,second⟩:=c;unfold S14.avg;simp only at hl hf hs⊢;obtain⟨f,rfl⟩:=Int.eq_ofNat_of_zero_le hf.1;obtain⟨g,rfl⟩:=Int.eq_ofNat_of_zero_le hs.1;have hff:f<bef.length:=by omega
 have hgg:g<bef.length:=by omega
 simp only[Int.toNat_natCast];obtain⟨bb,o,rfl,hcs⟩:=hrd.at (i:=f) (by rw[yM];exact hff);have cx:=hcs f (by rw[yM];exact hff);have cy:=hcs g (by rw[yM];exact hgg);have ex:(zaK bef)[f]'(by rw[yM];exact hff) = .int .i64 (bef.getD f 0):=by simp[zaK,zI,hff]
 have ey:(zaK bef)[g]'(by rw[yM];exact hgg) = .int .i64 (bef.getD g 0):=by simp[zaK,zI,hgg]
 rw[ex]at cx;rw[ey]at cy;have h1:=zkL hb f;have h2:=zkL hb g;obtain⟨x,hx⟩:∃x,bef.getD f 0=x:=⟨_,rfl⟩;obtain⟨y,hy⟩:∃x,bef.getD g 0=x:=⟨_,rfl⟩;obtain⟨n,hn⟩:∃n,bef.length=n:=⟨_,rfl⟩;rw[hx]at cx h1⊢;rw[hy]at cy h2⊢;rw[hn]at hff hgg⊢;have m1:=zoF h1.1 h1.2 hl.1;have m2:=zoF (l:=256-limit) h2.1 h2.2 (by omega);clear hcs ex ey hx hy hn hb hrd hf hs;have w1:IntKind.i64.wrap (x*limit)=x*limit:=IntWalk.i64_in _ (by omega);have w2:IntKind.i64.wrap (256-limit)=256-limit:=IntWalk.i64_in _ (by omega);have w3:IntKind.i64.wrap (y*(256-limit))=y*(256-limit):=IntWalk.i64_in _ (by omega);have w4:IntKind.i64.wrap (x*limit+y*(256-limit))=x*limit+y*(256-limit):=IntWalk.i64_in _ (by omega);have HR:=zB fun W=>zjG (x*limit+y*(256-limit)) 256 W (by omega) (by omega) (by omega) (by omega);obtain⟨R,hR⟩:∃R,S06.round (x*limit+y*(256-limit)) 256=R:=⟨_,rfl⟩;rw[hR]at HR⊢;clear hR m1 m2;have hfz:(f:Int)<(n:Int):=by omega
 have hgz:(g:Int)<(n:Int):=by omega
 unfold CV zZ VV;simp only;obtain⟨W1,hW1⟩:∃W1,(w.alloc (.cells #[.int .i64 kind,.int .i64 bits,.int .i64 limit,.int .i64 rate,.int .i64 (f:Int),.int .i64 (g:Int)] 115)).alloc (.cells #[.slice L.a1 N.comps.length L.c1,.slice L.a2 N.parts.length L.c2,.slice L.a3 N.ctxs.length L.c3,.int .i64 N.part,.int .i64 (k:Int),.slice (some ⟨bb,o,none⟩) n cb] 102)=W1:=⟨_,rfl⟩;have k1:Blk W1 w.heap.size [.int .i64 kind,.int .i64 bits,.int .i64 limit,.int .i64 rate,.int .i64 (f:Int),.int .i64 (g:Int)] 115:=by rw[←hW1];exact(Blk.new w _ _).alloc _
 have k2:Blk W1 (w.heap.size+1) [.slice L.a1 N.comps.length L.c1,.slice L.a2 N.parts.length L.c2,.slice L.a3 N.ctxs.length L.c3,.int .i64 N.part,.int .i64 (k:Int),.slice (some ⟨bb,o,none⟩) n cb] 102:=by
  rw[←hW1];have h:=Blk.new (w.alloc (.cells #[.int .i64 kind,.int .i64 bits,.int .i64 limit,.int .i64 rate,.int .i64 (f:Int),.int .i64 (g:Int)] 115)) [.slice L.a1 N.comps.length L.c1,.slice L.a2 N.parts.length L.c2,.slice L.a3 N.ctxs.length L.c3,.int .i64 N.part,.int .i64 (k:Int),.slice (some ⟨bb,o,none⟩) n cb] 102;rwa[zV]at h
 have B1:Below w.heap.size w W1:=by rw[←hW1];exact((zF _ _).alloc (zD _) _).alloc (by simp) _
 have cx1:=(B1.cell (zL cx)).trans cx;have cy1:=(B1.cell (zL cy)).trans cy;have hCS:Cells W1 [(⟨w.heap.size,2,none⟩,.int .i64 limit),(⟨w.heap.size,4,none⟩,.int .i64 (f:Int)),(⟨w.heap.size,5,none⟩,.int .i64 (g:Int)),(⟨w.heap.size+1,5,none⟩,.slice (some ⟨bb,o,none⟩) n cb),(⟨bb,o+f,none⟩,.int .i64 x),(⟨bb,o+g,none⟩,.int .i64 y)]:=⟨k1.cell 2,k1.cell 4,k1.cell 5,k2.cell 5,cx1,cy1,yF⟩;go_enter Tryz.func191,Tryz.ntmps191;go_wp2_with (rw[hW1]);refine zuL 25 1 [(U,[U,U,U,U,U,U,U,U,U,U,U,U,U,U,U,U,U,U,U,U,U,U,U,U]),(zuH,[zuH,zuH,zuH,zuH,zuH,zuH,zuH,zuH,zuH,zuH,zuH,zuH,zuH,zuH,zuH,zuH,zuH,zuH,zuH,zuH,zuH,zuH,zuH,zuH,U])] (Keeps W1 [(⟨w.heap.size,2,none⟩,.int .i64 limit),(⟨w.heap.size,4,none⟩,.int .i64 (f:Int)),(⟨w.heap.size,5,none⟩,.int .i64 (g:Int)),(⟨w.heap.size+1,5,none⟩,.slice (some ⟨bb,o,none⟩) n cb),(⟨bb,o+f,none⟩,.int .i64 x),(⟨bb,o+g,none⟩,.int .i64 y)]) (by kernel_rfl) (Keeps.start hCS) (fun Y Q4 F4 hY hF=> ?_);simp only[zuJ]
 repeat
  apply zJ (by rw[hY];rfl)
  ·intro w2 hS2;(try simp only[Keeps,Cells]at hS2);go_simp;with_reducible rfl
  simp only[zuI]
 apply zR (by rw[hY];rfl)
 ·go_simp;with_reducible exact⟨rfl,rfl⟩
 refine(HR.out _).mono ?_;rintro e w2 ⟨rfl,hb2⟩;have hk2:=(Keeps.start hCS).step hb2;refine⟨_,rfl,hk2,?_⟩;simp only[zuI];refine yE (hF.out _ _ (fun K hK=> ?_));clear hF hY;have hB2:=zA B1 hk2.1;go_wp2_with fail;refine OnlyK.mk (hK.out _ _ ?_);clear hK hk2;go_wp2;go_returns;exact⟨rfl,hB2⟩
theorem zlH:∀n:Nat,Cts (List.replicate n (32768,0))=S08.fresh n
 | 0=>rfl
 | n+1=>by
   have h:=zlH n;unfold Cts S08.fresh at *;rw[List.replicate_succ,List.replicate_succ,List.flatMap_cons,List.flatten_cons,h]
theorem Rd.keptRow{w w':World}{a:Option Addr}{vals:List Value}{b:Nat}(h:Rd w a vals)(hg:w.grownBy w' (some b))(hne:∀g o,a=some ⟨g,o,none⟩→g≠b):Rd w' a vals:=fun hn=>by
 obtain⟨g,o,rfl,hcs⟩:=h hn;refine⟨g,o,rfl,fun j v hv=> ?_⟩;have hc:=hcs j v hv;have hb:=hg.block g (zL hc) (fun e=>hne g o rfl (by cases e;rfl));unfold World.cell? at hc⊢;rw[hb];exact hc
theorem zoP(n:Nat)(h1:1≤n)(h2:n≤65536)(w:World):Calls Tryz.prog 120 #[.int .i64 (n:Int)] w fun e w'=>∃a cap,e = .returned (.slice a n cap)∧(∀g o,a=some ⟨g,o,none⟩→w.heap.size≤g)∧Rd w' a (Cts (List.replicate n (32768,0)))∧Below w.heap.size w w':=by
 have HT:=zB (zoQ (n:Int) w (by omega) (by omega));have hl:S08.tableLen (n:Int)=n:=by unfold S08.tableLen;split<;>omega
 rw[hl,←zlH]at HT;go_enter Tryz.func120,Tryz.ntmps120;go_wp2_with fail;refine HT.out.mono ?_;rintro e w1 ⟨a,cap,rfl,hfar,hrd,hb1⟩;have Hrd:=zB hrd;have Hfar:=zB hfar;clear hrd hfar;go_wp2;go_returns;exact⟨a,cap,rfl,Hfar.out,Hrd.out,hb1⟩
def S14.fresh1(n:Nat):S14.P:={S14.P0 with ctrs:=List.replicate n (32768,0)}
theorem PIs.fresh1{n:Nat}{w:World}{a:Option Addr}{cap:Nat}(h:Rd w a (Cts (List.replicate n (32768,0)))):PIs (S14.fresh1 n) {zdO with a1:=a,c1:=cap} w:=
 ⟨h,(PIs.zero w).tab,(PIs.zero w).mch,(PIs.zero w).mix,(PIs.zero w).apm⟩
theorem ziY(c:S14.C)(n P:Nat)(hn:n≤16)(hb:c.bits=n)(hP:2^n=P)(w:World):Calls Tryz.prog 114 #[CV c] w fun e w'=>∃y,e = .returned (PV (S14.fresh1 P) y)∧PRob 0 w.heap.size (S14.fresh1 P) y w'∧Below w.heap.size w w':=by
 have hp:=zpC hn;rw[hP]at hp;have HS:=zB fun W=>zeO c n P hn hb hP W;have HT:=zB fun W=>zoP P hp.1 hp.2 W;obtain⟨W1,hW1⟩:∃W1,(w.alloc (.cells (zZ c).toArray 112)).alloc (.cells zP 78)=W1:=⟨_,rfl⟩;have k1:Blk W1 w.heap.size (zZ c) 112:=by rw[←hW1];exact(Blk.new w _ _).alloc _
 have k2:Blk W1 (w.heap.size+1) (yL S14.P0 zdO) 78:=by
  rw[←hW1];have h:=zeH (w.alloc (.cells (zZ c).toArray 112));rwa[zV]at h
 have B1:Below w.heap.size w W1:=by rw[←hW1];exact((zF _ _).alloc (zD _) _).alloc (by simp) _
 obtain⟨kind,bits,limit,rate,first,second⟩:=c;unfold CV zZ at *;simp only at *;have Hb:=zB hb;clear hb hp;have q0:=k1.cell 0;have q1:=k1.cell 1;have q2:=k1.cell 2;have q3:=k1.cell 3;have q4:=k1.cell 4;have q5:=k1.cell 5;simp only[zuK]at q0 q1 q2 q3 q4 q5;go_enter Tryz.func114,Tryz.ntmps114;go_wp2_with (first
  | (refine zaB 78 zP zcS (by rfl) (by rfl) ?_;rw[hW1])
  | fail)
 refine(HS.out _).mono ?_;rintro e w2 ⟨rfl,hb2⟩;go_wp2_with fail;refine(HT.out _).mono ?_;rintro e w3 ⟨a,cap,rfl,hfar,hrd,hb3⟩;have hb13:Below W1.heap.size W1 w3:=zA hb2 hb3;have k23:=k2.step hb13;have B3:=zA B1 hb13;have hone:∀v∈yL (S14.fresh1 P) {zdO with a1:=a,c1:=cap},v.oneCell'=true:=zaM _ _;have hval:yL (S14.fresh1 P) {zdO with a1:=a,c1:=cap} = .slice a P cap::(yL S14.P0 zdO).tail:=by
  unfold yL S14.fresh1;simp only[zaW];rfl
 rw[hval]at hone;have Hrd:=zB hrd;have hk2:=k2.lt;have Hfar2:=zB (fun g o e=>by have:=hfar g o e;have:=hb2.size;have:=B1.size;exact .inr (by omega):∀g o,a=some ⟨g,o,none⟩→g<0∨w.heap.size≤g);have Hfar:=zB (fun g o e=>by have:=hfar g o e;have:=hb2.size;omega:∀g o,a=some ⟨g,o,none⟩→g≠w.heap.size+1);clear hrd hfar;go_wp2_with (first
  | (refine zT 78 (.tmp 2) (.tmp 7) (by rfl) (by rfl) (w.heap.size+1) (by rfl) (.slice a P cap::(yL S14.P0 zdO).tail) (by rfl) _ 78 k23 (info_P.trans rfl) rfl hone ?_;intro wL EL gL sL))
 have hL:=run_loadVar_mid wL _ 0 _ _ _ EL.cells Tryz.underlying78 rfl (info_P.trans rfl);refine bodyPost_ret (v:=.agg (.slice a P cap::(yL S14.P0 zdO).tail).toArray) ?_ rfl ?_
 ·exact zbH (show Tryz.f114.results = #[.cell 2 78]from rfl) (p:=⟨w.heap.size+1,0,none⟩) rfl hL
 ·refine⟨{zdO with a1:=a,c1:=cap},?_,fun w' hk=>PIs.fresh1 (Rd.kept ?_ hk Hfar2.out),B3.trans (yG gL (by omega) B3.size)⟩
  ·unfold PV;rw[hval]
  ·exact Hrd.out.keptRow gL Hfar.out
theorem field_P0(v:Value)(tl:List Value)(w:World):(Instr.field 78 (.agg (v::tl).toArray) 0).run Tryz.prog w = .ok v w:=by
 unfold Instr.field part;simp[run_underlying Tryz.underlying78,asAgg,go_sem]
theorem Cts_ix{xs:List (Int×Int)}{k:Nat}(h:k<xs.length):(Cts xs)[k*2]? = some (.int .i64 (xs.getD k (0,0)).1)∧(Cts xs)[k*2+1]? = some (.int .i64 (xs.getD k (0,0)).2):=by
 have:=zjB h;rw[zI,zE h];exact this
theorem Cts_set:∀(xs:List (Int×Int)) (k:Nat) (x:Int×Int),Cts (xs.set k x)=((Cts xs).set (k*2) (.int .i64 x.1)).set (k*2+1) (.int .i64 x.2)
 | [],k,x=>by simp[Cts]
 | c::xs,0,x=>by simp[Cts]
 | c::xs,k+1,x=>by
   have h:=Cts_set xs k x
   have e:∀l:List Value,(((Value.int .i64 c.1::Value.int .i64 c.2::l).set ((k+1)*2) (.int .i64 x.1)).set ((k+1)*2+1) (.int .i64 x.2))=Value.int .i64 c.1::Value.int .i64 c.2::(l.set (k*2) (.int .i64 x.1)).set (k*2+1) (.int .i64 x.2):=fun l=>by
    rw[show(k+1)*2=k*2+1+1 by omega];rfl
   show Value.int .i64 c.1::Value.int .i64 c.2::Cts (xs.set k x)=_;rw[h];exact(e (Cts xs)).symm
theorem direct14_out(c:S14.C)(N:S14.N)(L:NLay)(k:Nat)(b:Value)(hb:b.oneCell'=true)(p:S14.P)(y:Lay)(n:Nat)(w:World)(hN:NIs N L w)(hc:N.comps[k]? = some c)(hp:N.parts[k]? = some p)(hy:L.ys[k]? = some y)(hx:k<N.ctxs.length)(pt:Nat)(hpt:N.part=(pt:Int))(hpt2:pt<4294967296)
 (hn:c.bits=(n:Int)) (hn2:n≤16) (hl:p.ctrs.length=2^n) :
 Calls Tryz.prog 117 #[CV c,VV N L k b] w fun e w'=>e = .returned (.int .i64 (S14.probe p (S14.index (N.ctxs.getD k 0) pt n)))∧Below w.heap.size w w':=by
 have hk:k<N.parts.length:=(List.getElem?_eq_some_iff.1 hp).1;have hP:=hN.ps k p y hp hy;have hil:=S14.index_lt (N.ctxs.getD k 0) pt hn2;rw[←hl]at hil;obtain⟨g,o,hga,hcs⟩:=hP.rc (fun e=>by have h1:=yS List.length e;rw[zbY]at h1;simp at h1;omega);have HPt:=zB fun(W:World) (hW:Below w.heap.size w W)=>zbW N L k b hb W (hN.step hW) hk p y hp hy;have HIx:=zB fun(W:World) (hW:Below w.heap.size w W)=>zeT N L k b W (hN.step hW) hx pt hpt hpt2 c hc n hn hn2;obtain⟨i,hi⟩:∃i,S14.index (N.ctxs.getD k 0) pt n=i:=⟨_,rfl⟩;rw[hi]at hil HIx⊢;obtain⟨h0,h1⟩:=Cts_ix hil;have c0:=hcs _ _ h0;have c1:=hcs _ _ h1;unfold S14.probe S14.ctr;have HPr:=zB fun W=>zhA (p.ctrs.getD i (0,0)).1 (p.ctrs.getD i (0,0)).2 W;obtain⟨u,hu⟩:∃u,p.ctrs.getD i (0,0)=u:=⟨_,rfl⟩;rw[hu]at c0 c1 HPr⊢;obtain⟨u0,u1⟩:=u;simp only at c0 c1 HPr⊢;obtain⟨q,hq⟩:∃q,S08.predict u0 u1=q:=⟨_,rfl⟩;have HSt:=zB fun W=>zdI q W;rw[hq]at HPr⊢;obtain⟨R,hR⟩:∃R,S06.stretch q=R:=⟨_,rfl⟩;rw[hR]at HSt⊢;unfold PV at HPt;have hhd:∃tl,yL p y = .slice (some ⟨g,o,none⟩) p.ctrs.length y.c1::tl∧tl.length=15:=by unfold yL;rw[hga];exact⟨_,rfl,rfl⟩
 obtain⟨tl,htl,htl2⟩:=hhd;rw[htl]at HPt;obtain⟨m,hm⟩:∃m,p.ctrs.length=m:=⟨_,rfl⟩;rw[hm]at HPt hil;have hiz:(i:Int)<(m:Int):=by omega
 unfold CV;unfold VV at HPt HIx⊢;obtain⟨nc,hnc⟩:∃n,N.comps.length=n:=⟨_,rfl⟩;obtain⟨np,hnp⟩:∃n,N.parts.length=n:=⟨_,rfl⟩;obtain⟨nx,hnx⟩:∃n,N.ctxs.length=n:=⟨_,rfl⟩;rw[hnc,hnp,hnx,hpt]at HPt HIx⊢;clear hnc hnp hnx hm hR hq hu hi htl hcs h0 h1 hP hN hp hy hc hx hk hl hb;obtain⟨W1,hW1⟩:∃W1,(w.alloc (.cells (zZ c).toArray 112)).alloc (.cells #[.slice L.a1 nc L.c1,.slice L.a2 np L.c2,.slice L.a3 nx L.c3,.int .i64 (pt:Int),.int .i64 (k:Int),b] 102)=W1:=⟨_,rfl⟩;have k2:Blk W1 (w.heap.size+1) [.slice L.a1 nc L.c1,.slice L.a2 np L.c2,.slice L.a3 nx L.c3,.int .i64 (pt:Int),.int .i64 (k:Int),b] 102:=by
  rw[←hW1];have h:=Blk.new (w.alloc (.cells (zZ c).toArray 112)) [.slice L.a1 nc L.c1,.slice L.a2 np L.c2,.slice L.a3 nx L.c3,.int .i64 (pt:Int),.int .i64 (k:Int),b] 102;rwa[zV]at h
 have B1:Below w.heap.size w W1:=by rw[←hW1];exact((zF _ _).alloc (zD _) _).alloc (by simp) _
 have d0:=(B1.cell (zL c0)).trans c0;have d1:=(B1.cell (zL c1)).trans c1;rw[←zbR]at d1;have hCS:Cells W1 [(⟨w.heap.size+1,0,none⟩,.slice L.a1 nc L.c1),(⟨w.heap.size+1,1,none⟩,.slice L.a2 np L.c2),(⟨w.heap.size+1,2,none⟩,.slice L.a3 nx L.c3),(⟨w.heap.size+1,3,none⟩,.int .i64 (pt:Int)),(⟨w.heap.size+1,4,none⟩,.int .i64 (k:Int)),(⟨w.heap.size+1,5,none⟩,b),(⟨g,o+i*2,none⟩,.int .i64 u0),(⟨g,o+i*2+1,none⟩,.int .i64 u1)]:=⟨k2.cell 0,k2.cell 1,k2.cell 2,k2.cell 3,k2.cell 4,k2.cell 5,d0,d1,yF⟩;go_enter Tryz.func117,Tryz.ntmps117;go_wp2_with (rw[hW1]);refine zuL 9 1 [(U,[U,zuH,zuH,U]),(zuH,[zuH,U]),(U,[zuH,zuH,U]),(zuH,[zuH,zuH,zuH,zuH,U]),(U,[zuH,zuH,zuH,zuH,zuH,U,U]),(zuH,[zuH,zuH,zuH,zuH,zuH,zuH,zuH,U]),(zuH,[zuH,zuH,zuH,zuH,zuH,zuH,zuH,zuH,U])] (Keeps W1 [(⟨w.heap.size+1,0,none⟩,.slice L.a1 nc L.c1),(⟨w.heap.size+1,1,none⟩,.slice L.a2 np L.c2),(⟨w.heap.size+1,2,none⟩,.slice L.a3 nx L.c3),(⟨w.heap.size+1,3,none⟩,.int .i64 (pt:Int)),(⟨w.heap.size+1,4,none⟩,.int .i64 (k:Int)),(⟨w.heap.size+1,5,none⟩,b),(⟨g,o+i*2,none⟩,.int .i64 u0),(⟨g,o+i*2+1,none⟩,.int .i64 u1)]) (by kernel_rfl) (Keeps.start hCS) (fun Y Q4 F4 hY hF=> ?_);simp only[zuJ]
 repeat
  apply zJ (by rw[hY];rfl)
  ·intro w2 hS2;(try simp only[Keeps,Cells]at hS2);go_simp;with_reducible rfl
  simp only[zuI]
 apply zR (by rw[hY];rfl)
 ·go_simp;with_reducible exact⟨rfl,rfl⟩
 refine(HPt.out _ (zA B1 (Keeps.start hCS).1)).mono ?_;rintro e w2 ⟨rfl,hb2⟩;have hk2:=(Keeps.start hCS).step hb2;refine⟨_,rfl,hk2,?_⟩;simp only[zuI];have hfd:=field_P0 (.slice (some ⟨g,o,none⟩) m y.c1) tl
 repeat
  apply zJ (by rw[hY];rfl)
  ·intro w2 hS2;(try simp only[Keeps,Cells]at hS2);go_simp;with_reducible rfl
  simp only[zuI]
 apply zR (by rw[hY];rfl)
 ·go_simp;with_reducible exact⟨rfl,rfl⟩
 refine(HIx.out _ (zA B1 hk2.1)).mono ?_;rintro e w3 ⟨rfl,hb3⟩;have hk3:=hk2.step hb3;refine⟨_,rfl,hk3,?_⟩;simp only[zuI]
 repeat
  apply zJ (by rw[hY];rfl)
  ·intro w2 hS2;(try simp only[Keeps,Cells]at hS2);go_simp;with_reducible rfl
  simp only[zuI]
 apply zR (by rw[hY];rfl)
 ·go_simp;with_reducible exact⟨rfl,rfl⟩
 refine(HPr.out _).mono ?_;rintro e w4 ⟨rfl,hb4⟩;have hk4:=hk3.step hb4;refine⟨_,rfl,hk4,?_⟩;simp only[zuI];apply zR (by rw[hY];rfl)
 ·go_simp;with_reducible exact⟨rfl,rfl⟩
 refine(HSt.out _).mono ?_;rintro e w5 ⟨rfl,hb5⟩;have hk5:=hk4.step hb5;refine⟨_,rfl,hk5,?_⟩;simp only[zuI];refine yE (hF.out _ _ (fun K hK=> ?_));clear hF hY;have hB5:=zA B1 hk5.1;go_wp2_with fail;refine OnlyK.mk (hK.out _ _ ?_);clear hK hk2 hk3 hk4 hk5;go_wp2;go_returns;exact⟨rfl,hB5⟩
theorem Blk.rd_take{w:World}{b n:Nat}{cs vals:List Value}{t:TypeId}(h:Blk w b cs t)(hv:cs.take n=vals):Rd w (some ⟨b,0,none⟩) vals:=fun _=>⟨b,0,rfl,fun j v hj=>by
 rw[yK,h.cell];rw[←hv,zbG]at hj;split at hj
 ·exact hj
 ·cases hj⟩
def S14.upd(l:List (Int×Int))(i:Nat)(bit limit:Int):List (Int×Int):=l.set i (S08.updateP (l.getD i (0,0)).1 (l.getD i (0,0)).2 bit limit,S08.updateN (l.getD i (0,0)).1 (l.getD i (0,0)).2 bit limit)
theorem zjY(xs:List (Int×Int))(i:Nat)(hi:i<xs.length)(hl:xs.length≤65536)(bit limit:Int)(a:Option Addr)(cap:Nat)(w:World)(hrd:Rd w a (Cts xs)) :
 Calls Tryz.prog 122 #[.slice a xs.length cap,.int .i64 (i:Int),.int .i64 bit,.int .i64 limit] w fun e w'=>∃a' cap',e = .returned (.slice a' xs.length cap')∧(∀g o,a'=some ⟨g,o,none⟩→w.heap.size≤g)∧Rd w' a' (Cts (S14.upd xs i bit limit))∧Below w.heap.size w w':=by
 obtain⟨g,o,rfl,hcs⟩:=hrd (fun e=>by have h1:=yS List.length e;rw[zbY]at h1;simp at h1;omega);obtain⟨h0,h1⟩:=Cts_ix hi;have c0:=hcs _ _ h0;have c1:=hcs _ _ h1;rw[←zbR]at c1;have HC:=zB (cloneCtrs14 (Cts xs) xs.length (by rw[zbY]) (Cts14_one xs) g o cap w (by omega) (by omega) hrd);have HU:=zB fun W=>znC (xs.getD i (0,0)).1 (xs.getD i (0,0)).2 bit limit W;unfold S08.updateV at HU;unfold S14.upd;have HS:=zB (fun x=>Cts_set xs i x);obtain⟨u,hu⟩:∃u,xs.getD i (0,0)=u:=⟨_,rfl⟩;rw[hu]at c0 c1 HU⊢;obtain⟨u0,u1⟩:=u;simp only at c0 c1 HU⊢;obtain⟨p',hp'⟩:∃q,S08.updateP u0 u1 bit limit=q:=⟨_,rfl⟩;obtain⟨n',hn'⟩:∃q,S08.updateN u0 u1 bit limit=q:=⟨_,rfl⟩;obtain⟨e',he'⟩:∃q,S08.updateE u0 u1 bit limit=q:=⟨_,rfl⟩;rw[hp',hn',he']at HU;rw[hp',hn'];obtain⟨m,hm⟩:∃m,xs.length=m:=⟨_,rfl⟩;rw[hm]at HC hi hl⊢;have hiz:(i:Int)<(m:Int):=by omega
 clear hp' hn' he' hu h0 h1 hcs hrd hm;go_enter Tryz.func122,Tryz.ntmps122;go_wp2_with fail;refine HC.out.mono ?_;rintro e w1 ⟨a',cap',rfl,hown,hb1⟩;have d0:=(hb1.cell (zL c0)).trans c0;have d1:=(hb1.cell (zL c1)).trans c1;go_wp2_with fail;refine(HU.out _).mono ?_;rintro e w2 ⟨rfl,hb2⟩;have hown2:=yX (B:=0) hown hb2;have hB2:=zA hb1 hb2;obtain⟨hlen,hcase⟩:=hown2;rcases hcase with⟨_,h0⟩|⟨g2,cap2,cur,he,hbg,hg,hnc,hcm,hcs,htake⟩
 ·omega
 simp only[Value.slice.injEq,true_and]at he;obtain⟨rfl,rfl⟩:=he;have kb:Blk w2 g2 cur.toList 179:=by unfold Blk;rw[Array.toArray_toList];exact hg
 have hcl:i*2+1<cur.toList.length:=by rw[Array.length_toList,hcs];omega
 have s1:=kb.set (i*2) (.int .i64 p');have s2:=s1.set (i*2+1) (.int .i64 n');have f0:w2.cell? ⟨g2,i*2,none⟩=some (cur.toList[i*2]'(by omega)):=by rw[kb.cell,zE]
 have f1:w2.cell? ⟨g2,i*2+1,none⟩=some (cur.toList[i*2+1]'(by omega)):=by rw[kb.cell,zE]
 have f1':(w2.setCell ⟨g2,i*2,none⟩ (.int .i64 p')).cell? ⟨g2,i*2+1,none⟩=some (cur.toList[i*2+1]'(by omega)):=by
  rw[s1.cell,List.getElem?_set_ne (by omega),zE]
 have f2:=kb.free (i*2);have f3:=s1.free (i*2+1);have hres:=zB (s2.rd_take (n:=m*2) (vals:=Cts (xs.set i (p',n'))) (by rw[List.take_set,List.take_set,htake,HS.out]));have hB3:Below w.heap.size w ((w2.setCell ⟨g2,i*2,none⟩ (.int .i64 p')).setCell ⟨g2,i*2+1,none⟩ (.int .i64 n')):=(hB2.setCell (p:=⟨g2,i*2,none⟩) (by simp;omega) _).setCell (p:=⟨g2,i*2+1,none⟩) (by simp;omega) _;clear s1 s2 htake hown hg kb;go_wp2;go_returns;exact⟨_,_,rfl,fun g o e=>by cases e;exact hbg,hres.out,hB3⟩
theorem zcV{P:Program}{w:World}{o:Oper}{a:Act}(T:TypeId)(x:Operand)(ho:o.op = .load T x)(b:Nat)(hx:a.eval x = .pointer (some ⟨b,0,none⟩))(cs:List Value)(hc:w.rangeAt b 0 cs)(d:TypeDesc)(hu:P.underlying T=some d)(hd:d.isRow=true)(hi:(P.info? T).map (·.size)=some cs.length) :
 (execOp a.eval o).run P w = .ok (.value (.agg cs.toArray)) w:=by
 unfold execOp;simp only[ho,hx,Instr.loadAt,Instr.sureAddr,Sem.run_bind,Sem.run_pure,Result.andThen_ok,run_loadVar_mid w b 0 T cs d hc hu hd hi]
theorem zrM(c:S14.C)(p:S14.P)(y:Lay)(pt:Int)(n P:Nat)(hn:n≤16)(hb:c.bits=n)(hP2:2^n=P)(w:World)(hP:PIs p y w) :
 Calls Tryz.prog 118 #[CV c,PV p y,.int .i64 pt] w fun e w'=>e = .returned (.bool (S14.bare {p with ctrs:=[]}&&(decide (p.ctrs.length=P) && !p.ctrs.any (S14.badC c.limit))))∧Below w.heap.size w w':=by
 have hp:=zpC hn;rw[hP2]at hp;have HS:=zB fun W=>zeO c n P hn hb hP2 W;have HB:=zB fun W=>zeY {p with ctrs:=[]} {y with a1:=none,c1:=0} W hP.mch.lh hP.mch.lb hP.mch.lc;have HT:=zB fun(W:World) (hW:Below w.heap.size w W)=>zhH p.ctrs P c.limit y.a1 y.c1 W hp.2 (hP.rc.step hW);obtain⟨W1,hW1,k1,k2,B1⟩:=zjM w c 112 p y;have hhd:∃tl,yL p y = .slice y.a1 p.ctrs.length y.c1::tl∧yL {p with ctrs:=[]} {y with a1:=none,c1:=0} = .slice none 0 0::tl∧tl.length=15:=⟨_,rfl,rfl,rfl⟩;obtain⟨tl,ht1,ht2,ht3⟩:=hhd;unfold PV at HB⊢;unfold CV at HS⊢;rw[ht1]at k2 hW1⊢;rw[ht2]at HB;obtain⟨q,hq⟩:∃q,S14.bare {p with ctrs:=[]}=q:=⟨_,rfl⟩;obtain⟨r,hr⟩:∃r,(decide (p.ctrs.length=P) && !p.ctrs.any (S14.badC c.limit))=r:=⟨_,rfl⟩;rw[hq]at HB⊢;rw[hr]at HT⊢;obtain⟨m,hm⟩:∃m,p.ctrs.length=m:=⟨_,rfl⟩;rw[hm]at HT k2 hW1⊢;obtain⟨kind,bits,limit,rate,first,second⟩:=c;unfold zZ at *;simp only at HT HS k1 hW1⊢;have hi16:some 16=some (Value.slice none 0 0::tl).length:=by rw[yO,ht3]
 clear hq hr hm ht1 ht2 hb hP;have e0:=k2.cell 0;have e0f:=k2.free 0;simp only[lgz]at e0;have k3:=k2.set 0 (.slice none 0 0);rw[List.set_cons_zero]at k3;have k1':=k1.other (w.heap.size+1) 0 (.slice none 0 0) (by omega);have B2:Below w.heap.size w (W1.setCell ⟨w.heap.size+1,0,none⟩ (.slice none 0 0)):=B1.setCell (p:=⟨w.heap.size+1,0,none⟩) (by simp) _;go_enter Tryz.func118,Tryz.ntmps118;go_wp2_with (rw[hW1]);obtain⟨W2,hW2⟩:∃W2,W1.setCell ⟨w.heap.size+1,0,none⟩ (.slice none 0 0)=W2:=⟨_,rfl⟩;rw[hW2]at k3 k1' B2⊢;clear hW2 e0 e0f k1 k2 B1 hW1;have hCS:Cells W2 [(⟨w.heap.size,0,none⟩,.int .i64 kind),(⟨w.heap.size,1,none⟩,.int .i64 bits),(⟨w.heap.size,2,none⟩,.int .i64 limit),(⟨w.heap.size,3,none⟩,.int .i64 rate),(⟨w.heap.size,4,none⟩,.int .i64 first),(⟨w.heap.size,5,none⟩,.int .i64 second)]:=⟨k1'.cell 0,k1'.cell 1,k1'.cell 2,k1'.cell 3,k1'.cell 4,k1'.cell 5,yF⟩;cases q with
 | false=>
   go_wp2_with fail;refine zuL 12 1 [(U,[U]),(zuH,[zuH,U]),(U,[zuH,zuH,U,U,U,U,zuH,U,U,U]),(zuH,[zuH,zuH,zuH,zuH,zuH,zuH,U]),(zuH,[zuH,zuH,zuH,zuH,zuH,zuH,zuH,zuH,zuH,zuH,U]),(U,[zuH,zuH,zuH,zuH,zuH,zuH,zuH,zuH,zuH,zuH,zuH,U])] (Keeps W2 [(⟨w.heap.size,0,none⟩,.int .i64 kind),(⟨w.heap.size,1,none⟩,.int .i64 bits),(⟨w.heap.size,2,none⟩,.int .i64 limit),(⟨w.heap.size,3,none⟩,.int .i64 rate),(⟨w.heap.size,4,none⟩,.int .i64 first),(⟨w.heap.size,5,none⟩,.int .i64 second)]) (by kernel_rfl) (Keeps.start hCS) (fun Y Q4 F4 hY hF=> ?_);simp only[zuJ]
   repeat
    apply zJ (by rw[hY];rfl)
    ·intro w2 hS2;(try simp only[Keeps,Cells]at hS2);go_simp;with_reducible rfl
    simp only[zuI]
   apply zJ (by rw[hY];rfl)
   ·intro w2 hS2;exact zcV 78 (.tmp 4) (by rfl) (w.heap.size+1) (by rfl) (Value.slice none 0 0::tl) (k3.step hS2.1).cells _ Tryz.underlying78 rfl (info_P.trans hi16)
   simp only[zuI];apply zR (by rw[hY];rfl)
   ·go_simp;with_reducible exact⟨rfl,rfl⟩
   refine(HB.out _).mono ?_;rintro e w3 ⟨rfl,hb3⟩;have hk3:=(Keeps.start hCS).step hb3;refine⟨_,rfl,hk3,?_⟩;simp only[zuI]
   repeat
    apply zJ (by rw[hY];rfl)
    ·intro w2 hS2;(try simp only[Keeps,Cells]at hS2);go_simp;with_reducible rfl
    simp only[zuI]
   repeat
    first
     | (apply yV (by rw[hY];rfl);simp only[zuI])
     | (refine zaD (by rw[hY];rfl) (hk3) ?_;simp only[zuI])
   repeat
    apply zJ (by rw[hY];rfl)
    ·intro w2 hS2;(try simp only[Keeps,Cells]at hS2);go_simp;with_reducible rfl
    simp only[zuI]
   refine yE (hF.out _ _ (fun K hK=> ?_));clear hF hY;have B3:=zA B2 hk3.1;go_wp2_with fail;refine OnlyK.mk (hK.out _ _ ?_);clear hK;go_wp2;go_returns;exact⟨rfl,B3⟩
 | true=>
   go_wp2_with fail;refine zuL 12 1 [(U,[U]),(zuH,[zuH,U]),(U,[zuH,zuH,U,U,U,U,zuH,U,U,U]),(zuH,[zuH,zuH,zuH,zuH,zuH,zuH,U]),(zuH,[zuH,zuH,zuH,zuH,zuH,zuH,zuH,zuH,zuH,zuH,U]),(U,[zuH,zuH,zuH,zuH,zuH,zuH,zuH,zuH,zuH,zuH,zuH,U])] (Keeps W2 [(⟨w.heap.size,0,none⟩,.int .i64 kind),(⟨w.heap.size,1,none⟩,.int .i64 bits),(⟨w.heap.size,2,none⟩,.int .i64 limit),(⟨w.heap.size,3,none⟩,.int .i64 rate),(⟨w.heap.size,4,none⟩,.int .i64 first),(⟨w.heap.size,5,none⟩,.int .i64 second)]) (by kernel_rfl) (Keeps.start hCS) (fun Y Q4 F4 hY hF=> ?_);simp only[zuJ]
   repeat
    apply zJ (by rw[hY];rfl)
    ·intro w2 hS2;(try simp only[Keeps,Cells]at hS2);go_simp;with_reducible rfl
    simp only[zuI]
   apply zJ (by rw[hY];rfl)
   ·intro w2 hS2;exact zcV 78 (.tmp 4) (by rfl) (w.heap.size+1) (by rfl) (Value.slice none 0 0::tl) (k3.step hS2.1).cells _ Tryz.underlying78 rfl (info_P.trans hi16)
   simp only[zuI];apply zR (by rw[hY];rfl)
   ·go_simp;with_reducible exact⟨rfl,rfl⟩
   refine(HB.out _).mono ?_;rintro e w3 ⟨rfl,hb3⟩;have hk3:=(Keeps.start hCS).step hb3;refine⟨_,rfl,hk3,?_⟩;simp only[zuI]
   repeat
    apply zJ (by rw[hY];rfl)
    ·intro w2 hS2;(try simp only[Keeps,Cells]at hS2);go_simp;with_reducible rfl
    simp only[zuI]
   apply zR (by rw[hY];rfl)
   ·go_simp;with_reducible exact⟨rfl,rfl⟩
   refine(HS.out _).mono ?_;rintro e w4 ⟨rfl,hb4⟩;have hk4:=hk3.step hb4;refine⟨_,rfl,hk4,?_⟩;simp only[zuI];apply zR (by rw[hY];rfl)
   ·go_simp;with_reducible exact⟨rfl,rfl⟩
   refine(HT.out _ (zA B2 hk4.1)).mono ?_;rintro e w5 ⟨rfl,hb5⟩;have hk5:=hk4.step hb5;refine⟨_,rfl,hk5,?_⟩;simp only[zuI]
   repeat
    apply zJ (by rw[hY];rfl)
    ·intro w2 hS2;(try simp only[Keeps,Cells]at hS2);go_simp;with_reducible rfl
    simp only[zuI]
   refine yE (hF.out _ _ (fun K hK=> ?_));clear hF hY;have B3:=zA B2 hk5.1;go_wp2_with fail;refine OnlyK.mk (hK.out _ _ ?_);clear hK;go_wp2;go_returns;exact⟨zaP (by simp),B3⟩
def S14.basic(l:List S14.C):Prop:=∀c∈l,c.kind=0∨c.kind=1∨c.kind=4
def S14.freshB(c:S14.C):S14.P:=if c.kind=1 then S14.fresh1 (2^c.bits.toNat)else S14.P0
def S14.outB(N:S14.N)(k:Nat)(bef:List Int):Int:=
 if(N.comps.getD k S14.zc).kind=0 then S06.stretch (N.comps.getD k S14.zc).limit else if(N.comps.getD k S14.zc).kind=1 then S14.probe (N.parts.getD k S14.P0) (S14.at_ N k (N.comps.getD k S14.zc))else S14.avg (N.comps.getD k S14.zc) bef
theorem zeU{α:Type}{l:List α}{k:Nat}{x d:α}(h:l[k]? = some x):l.getD k d=x:=by rw[zI,h];rfl
theorem zaY{b:Int}(h:0≤b):b=(b.toNat:Int):=(Int.toNat_of_nonneg h).symm
theorem fresh_basic(l:List S14.C)(hb:S14.basic l):zmO l S14.freshB:=fun k c hc hok W=>by
 have hi:=S14.ok_is hok;rcases hb c (zdB hc)with h|h|h
 ·unfold zsU S14.freshB;rw[zO h,zG (by omega)];exact(zhI c W).mono fun e w' h=>⟨zdO,h.1,PRob.zero _ _ _,h.2⟩
 ·unfold zsU S14.freshB;rw[zG (by omega),zO h,zO h];exact ziY c c.bits.toNat _ (by have:=hi.bits;omega) (zaY hi.bits.1) rfl W
 ·unfold zsU S14.freshB;rw[zG (by omega),zG (by omega),zG (by omega),zG (by omega),zO h,zG (by omega)];exact(ziF c W).mono fun e w' h=>⟨zdO,h.1,PRob.zero _ _ _,h.2⟩
theorem sees14{N:S14.N}{L:NLay}{w:World}(hN:NIs N L w)(h0:S14.checkNet N=0){k:Nat}{c:S14.C}(hc:N.comps[k]? = some c) :
 ∃p y,N.parts[k]? = some p∧L.ys[k]? = some y∧PIs p y w∧k<N.parts.length∧k<N.ctxs.length∧S14.ok c (k:Int)=true∧S14.right c p N.part=true∧1≤N.part∧N.part≤255:=by
 obtain⟨hck,hpl,hxl,hp1,hp2,har⟩:=S14.checkNet_zero h0;obtain⟨hl0,hl,hok⟩:=S14.check_zero hck;have hk:=(List.getElem?_eq_some_iff.1 hc).1;obtain⟨p,hp⟩:∃p,N.parts[k]? = some p:=⟨_,zE (by omega)⟩;obtain⟨y,hy⟩:∃y,L.ys[k]? = some y:=⟨_,zE (by rw[hN.ly];omega)⟩;exact⟨p,y,hp,hy,hN.ps k p y hp hy,by omega,by omega,hok k c hc,har k c p hc hp,hp1,hp2⟩
theorem direct_len14{c:S14.C}{p:S14.P}{pt:Int}(h:c.kind=1)(hr:S14.right c p pt=true):p.ctrs.length=2^c.bits.toNat:=by
 unfold S14.right at hr;rw[zG (by omega),zO h]at hr;unfold S14.okCtrs at hr;simp only[zS,zY]at hr;exact hr.2.1
theorem average_ok14{c:S14.C}{k:Int}(h:c.kind=4)(hok:S14.ok c k=true):(0≤c.limit∧c.limit≤256)∧(0≤c.first∧c.first<k)∧(0≤c.second∧c.second<k):=by
 unfold S14.ok at hok;rw[zG (by omega),zG (by omega),zG (by omega),zG (by omega),zO h]at hok;unfold S14.okAverage at hok;simp only[zS,S14.has_iff]at hok;omega
theorem S14.checkNet_of{N:S14.N}(h1:S14.check N.comps=0)(h2:N.parts.length=N.comps.length)(h3:N.ctxs.length=16)(h4:1≤N.part∧N.part≤255)(h5:S14.allRight N):S14.checkNet N=0:=by
 unfold S14.checkNet;rw[zG (by rw[h1];simp),zG (by omega),zG (by have:=S14.has_iff.2 h4;simp[this]),zO h5]
def nA:S14.N:=⟨[cK,cD,cA],[S14.P0,S14.fresh1 1,S14.P0],List.replicate 16 0,1⟩
