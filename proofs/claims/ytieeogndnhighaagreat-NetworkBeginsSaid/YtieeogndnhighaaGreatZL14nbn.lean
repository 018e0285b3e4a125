/- A part of the proof of L14n. No condition. -/
import Derived.Test.YtieeogndnhighaaGreatZL14nbk
import Derived.Test.YtieeogndnhighaaGreatZL14nbm
set_option linter.all false
set_option maxRecDepth 100000
set_option maxHeartbeats 20000000
namespace Go.Proofs.YtieeogndnhighaaGreat
open Go.RowKit
def zkQ(N:S14.N)(L:NLay)(w:World)(O:Nat→List Int→Int)(G:Nat→S14.P)(bit:Int):Prop:=
 ∀(k:Nat) (c:S14.C),N.comps[k]? = some c→∀(a:Option Addr) (W:World),Below w.heap.size w W→Rd W a (zaO (S14.outs O k))→
  Calls Tryz.prog (LearnF c) #[CV c,VV N L k (.slice a k k),.int .i64 bit] W fun e w'=>∃y,e = .returned (.tuple #[PV (G k) y,.int .i64 0])∧PRob 0 W.heap.size (G k) y w'∧Below W.heap.size W w'
theorem zqP(N N2:S14.N)(L:NLay)(O:Nat→List Int→Int)(G:Nat→S14.P)(bit:Int)(w:World)(hN:NIs N L w)(HR:zdZ N L w)(h0:S14.checkNet N=0)(HK:zgY N L w O)(hb:bit=0∨bit=1)(HL:zkQ N L w O G bit)
 (HOp1:S14.opens (S14.next N.part bit)→zgQ w ⟨N.comps,S14.parts1 G N.parts N.comps.length,N.ctxs,S14.next N.part bit⟩ N2) (HOp0:¬S14.opens (S14.next N.part bit)→N2=⟨N.comps,S14.parts1 G N.parts N.comps.length,N.ctxs,S14.next N.part bit⟩) :
 Calls Tryz.prog 25 #[NV N L,.int .i64 bit] w fun e w'=>∃L',e = .returned (.tuple #[NV N2 L',.int .i64 0])∧(∀W,KepX (fun k=>k<w.heap.size) w' W→NIs N2 L' W)∧Below w.heap.size w w':=by
 obtain⟨hck,hpl,hxl,hp1,hp2,_⟩:=S14.checkNet_zero h0;obtain⟨hl0,hl,hok⟩:=S14.check_zero hck;have hk6:=S14.kinds_of hck;obtain⟨W1,hW1⟩:∃W1,(w.alloc (.cells (zbP N L).toArray 26)).alloc (.cells zN 26)=W1:=⟨_,rfl⟩;have k1:Blk W1 w.heap.size (zbP N L) 26:=by rw[←hW1];exact(Blk.new w _ _).alloc _
 have r1:Blk W1 (w.heap.size+1) [.slice none 0 0,.slice none 0 0,.slice none 0 0,.int .i64 0] 26:=by
  rw[←hW1];have h:=Blk.new (w.alloc (.cells (zbP N L).toArray 26)) [.slice none 0 0,.slice none 0 0,.slice none 0 0,.int .i64 0] 26;rwa[yA]at h
 have B1:Below w.heap.size w W1:=by rw[←hW1];exact((zG _ _).alloc (zE _) _).alloc (by simp) _
 have HC:=zD (zeB N L O W1 (hN.step B1) (fun k c p y h1 h2 h3 h4 W hW=>HR k c p y h1 h2 h3 h4 W (zA B1 hW)) h0 (fun k c h bef a W' h1=>HK k c h bef a W' (zA B1 h1)));have HCp:=zD fun(W:World) (hW:Below w.heap.size w W)=>copied14_any N L W (hN.step hW) ⟨hl0,hl⟩ hpl hxl;have HBw:=zD fun W=>zaN bit 0 1 W;have hbt:S14.has bit 0 1=true:=by rcases hb with rfl|rfl<;>rfl
 rw[hbt]at HBw;have HO:=zD fun(x:S14.C) W=>(show Calls Tryz.prog 43 #[.agg #[.int .i64 x.kind,.int .i64 x.bits,.int .i64 x.limit,.int .i64 x.rate,.int .i64 x.first,.int .i64 x.second]] W _ from zfJ x W);have HN:=zD hN;have HLH:=zD HL;have HP1:=zD HOp1;have HP0:=zD HOp0;have Hk6:=zD hk6;have Hpp:=zD (show 1≤N.part∧N.part≤255 from⟨hp1,hp2⟩);have Hb01:=zD hb;unfold zN at hW1;obtain⟨g,o,hga,_⟩:=hN.rc (fun e=>by have h:=yQ List.length e;rw[yT,List.length_nil]at h;omega);have HRc:=zD hN.rc;rw[hga]at HRc;clear HR h0 hck HK hbt HL HOp1 HOp0 hok hk6 hp1 hp2 hb;unfold NV zbP at HC HCp;unfold zbP at k1 hW1;unfold zkQ VV at HLH;unfold NV zbP;obtain⟨nc,hnc⟩:∃n,N.comps.length=n:=⟨_,rfl⟩;obtain⟨np,hnp⟩:∃n,N.parts.length=n:=⟨_,rfl⟩;obtain⟨nx,hnx⟩:∃n,N.ctxs.length=n:=⟨_,rfl⟩;obtain⟨pt,hpt⟩:∃n,N.part=n:=⟨_,rfl⟩;rw[hnc,hnp,hnx,hpt,hga]at HC HCp k1 hW1 HLH;rw[hnp,hnc]at hpl;rw[hnx]at hxl;rw[hnc]at hl0 hl;rw[hpt]at Hpp;rw[hnc,hnp,hnx,hpt,hga];clear hga;have Hnc:=zD hnc;have Hnp:=zD hnp;have Hnx:=zD hnx;have Hpt:=zD hpt;clear hnc hnp hnx hpt hN;subst hpl;subst hxl;have c1:=k1.cell 0;simp only[lgz]at c1;go_enter Tryz.func25,Tryz.ntmps25;go_wp2_with (first
  | (rw[hW1])
  | (refine yC 26 (.tmp 2) (by rfl) (by rfl) w.heap.size (by rfl) [.slice (some ⟨g,o,none⟩) np L.c1,.slice L.a2 np L.c2,.slice L.a3 16 L.c3,.int .i64 pt] 26 k1 _ Tryz.underlying26 rfl info_N ?_))
 refine HC.out.mono ?_;rintro e w2 ⟨a,cap,rfl,hrd,hfar,hcap,hb2⟩;have k2:=k1.step hb2;have r2:=r1.step hb2;have B2:=zA B1 hb2;have Hrd:=zD hrd;have Hfar:=zD hfar;clear k1 r1 hW1 B1 hrd hfar hb2 c1 HC;go_wp2_with fail;refine(HBw.out _).mono ?_;rintro e w3 ⟨rfl,hb3⟩;have k3:=k2.step hb3;have r3:=r2.step hb3;have B3:=zA B2 hb3;have Hrd:=zD (Hrd.out.step hb3);obtain⟨ga,oa,rfl,hga⟩:∃ga oa,a=some ⟨ga,oa,none⟩∧ga<w3.heap.size:=by
  obtain⟨g',o',e,hcs⟩:=Hrd.out.at (i:=0) (by unfold zaO;rw[zaA,S14.outs_length];omega);exact⟨g',o',e,zJ (hcs 0 (by unfold zaO;rw[zaA,S14.outs_length];omega))⟩
 clear k2 r2 B2 hb3 HBw;go_wp2_with (first
  | (refine yC 26 (.tmp 2) (by rfl) (by rfl) w.heap.size (by rfl) [.slice (some ⟨g,o,none⟩) np L.c1,.slice L.a2 np L.c2,.slice L.a3 16 L.c3,.int .i64 pt] 26 k3 _ Tryz.underlying26 rfl info_N ?_))
 refine(HCp.out _ B3).mono ?_;rintro e w4 ⟨a1,c1,a2,c2,a3,c3,rfl,own1,own2,own3,hb4⟩;have B4:=zA B3 hb4;have k4:=k3.step hb4;have r4:=r3.step hb4;have Hrd:=zD (Hrd.out.step hb4);obtain⟨D,hD⟩:∃D,w3.heap.size=D:=⟨_,rfl⟩;have hwD:w.heap.size+1<D:=by rw[←hD];exact r3.lt
 rw[hD]at own1 own2 own3 hga;unfold OwnP at own2;rw[Hnp.out]at own2;obtain⟨NB,hNB⟩:∃NB,w4.heap.size=NB:=⟨_,rfl⟩;have hb4s:=hb4.size;clear k3 r3 hb4 HCp B3;have hDN:D≤NB:=by rw[←hD,←hNB];exact hb4s
 obtain⟨W5,hW5⟩:∃W5,w4.alloc (.cells #[.slice none 0 0,.slice none 0 0,.slice none 0 0,.int .i64 0] 26)=W5:=⟨_,rfl⟩;have hb5:Below w4.heap.size w4 W5:=by rw[←hW5];exact(zG _ _).alloc (zE _) _
 have EN:Blk W5 NB [.slice none 0 0,.slice none 0 0,.slice none 0 0,.int .i64 0] 26:=by rw[←hW5,←hNB];exact Blk.new w4 _ _
 obtain⟨gC,rfl,hC1,hC2,hC3,hC4⟩:=zcH own1 hl0;obtain⟨g2,rfl,hP1,hP2,hP3,hP4⟩:=zcH own2 hl0;obtain⟨gX,rfl,hX1,hX2,hX3,hX4⟩:=zcH own3 (by decide);have hneCP:gC≠g2:=zlH own1 own2 (by decide);have hneXP:gX≠g2:=zlH own3 own2 (by decide);rw[hNB]at hC2 hP2 hX2;go_wp2_with (first
  | (rw[hW5,hNB])
  | (rw[hW5])
  | (refine yE 26 (.tmp 8) (.tmp 27) (by rfl) (by rfl) NB (by rfl) [.slice (some ⟨gC,0,none⟩) np c1,.slice (some ⟨g2,0,none⟩) np c2,.slice (some ⟨gX,0,none⟩) 16 c3,.int .i64 pt] (by rfl) _ 26 EN info_N rfl (by simp[Value.oneCell']) ?_;intro wL EL gL sL;have hXN:KepX (fun k=>k=NB) w4 wL:=(KepX.below hb5).trans (KepX.row gL (fun b e=>.inl (zO e).symm));have kL:=k4.kepX hXN (show¬_=NB by omega);have c0:=kL.cell 0;simp only[lgz]at c0))
 have BL:Below w.heap.size w wL:=hXN.toBelow B4 (fun k e=>by have e:k=NB:=e;omega);have rL:=r4.kepX hXN (show¬_=NB by omega);have HrC:=zD ((Rd.of_owns own1).kepX hXN (fun g o e=>by cases e;show¬_=NB;omega));have HrX:=zD ((Rd.of_owns own3).kepX hXN (fun g o e=>by cases e;show¬_=NB;omega));have own2L:=zeY own2 hXN (fun g e=>by have e:some g2=some g:=e;cases e;show¬_=NB;omega);have HrdL:=zD (Hrd.out.kepX hXN (fun g o e=>by cases e;show¬_=NB;omega));clear own1 own2 own3 k4 r4 B4 gL sL EN hb5 hXN hW5 Hrd
 have hXl:∀k,(k=w.heap.size+1∨k=NB∨k=g2)→w.heap.size≤k∧k<wL.heap.size:=fun k h=>by
  have h1:=EL.lt;have h2:=rL.lt;rcases h with rfl|rfl|rfl
  ·omega
  ·omega
  ·omega
 have hzL:=BL.size;obtain⟨Z,hZ⟩:∃Z,wL.heap.size=Z:=⟨_,rfl⟩;have HXl:=zD (hZ▸hXl);have hrob0:∀(j:Nat) (p:S14.P) (y:Lay),j<0→(S14.parts1 G N.parts 0)[j]? = some p→L.ys[j]? = some y→PRobX (fun k=>k<w.heap.size∨k=w.heap.size+1∨k=NB∨k=g2) p y wL:=fun j p y h=>absurd h (Nat.not_lt_zero _);have hly0:L.ys.length=np:=by rw[HN.out.ly,Hnp.out]
 clear hXl
 go_loopw [31] (fun i wr=>∃(k:Nat) (ys:List Lay),k≤np∧i = .int .i64 (k:Int)∧ys.length=np∧Hid (wr.ownsRow D 83 16 (.slice (some ⟨g2,0,none⟩) np c2) np (PCs (S14.parts1 G N.parts k) ys))∧
  KepX (fun k=>k=g2) wL wr∧
  Hid (∀(j:Nat) (p:S14.P) (y:Lay),j<k→(S14.parts1 G N.parts k)[j]? = some p→ys[j]? = some y→PRobX (fun k=>k<w.heap.size∨k=w.heap.size+1∨k=NB∨k=g2) p y wr)) (fun i _=>np-(intOf i).toNat)
 case atStart=>exact⟨0,L.ys,by omega,rfl,hly0,zD own2L,KepX.refl _ _,zD hrob0⟩
 case round=>
  clear own2L hrob0 hly0;obtain⟨k,ys,hk,rfl,hys,hown,hKX,hrob⟩:=hrel;have hzr:Z≤wr.heap.size:=by rw[←hZ];exact hKX.size
  have hBr:Below w.heap.size w wr:=hKX.toBelow BL (fun k e=>by have e:k=g2:=e;omega);have kr:=kL.kepX hKX (show¬_=g2 by omega);by_cases hlt:k<np
  ·have hkz:(k:Int)<(np:Int):=by omega
   have hkcz:(k:Int)≤(cap:Int):=by omega
   obtain⟨x,hx⟩:∃x,N.comps[k]? = some x:=⟨_,zI (by have:=Hnc.out;omega)⟩;obtain⟨g1,o1,e1,hcs1⟩:=(HRc.out.step hBr) (fun e=>by have h:=yQ List.length e;have:=Hnc.out;rw[yT,List.length_nil]at h;omega);cases e1;obtain⟨x0,x1,x2,x3,x4,x5⟩:=zhK hcs1 hx;have hkd:=Hk6.out x (yN hx);obtain⟨W6,hW6⟩:∃W6,wr.alloc (.cells #[.int .i64 x.kind,.int .i64 x.bits,.int .i64 x.limit,.int .i64 x.rate,.int .i64 x.first,.int .i64 x.second] 54)=W6:=⟨_,rfl⟩;obtain⟨Q,hQ⟩:∃Q,wr.heap.size=Q:=⟨_,rfl⟩;have kQ:Blk W6 Q [.int .i64 x.kind,.int .i64 x.bits,.int .i64 x.limit,.int .i64 x.rate,.int .i64 x.first,.int .i64 x.second] 54:=by rw[←hW6,←hQ];exact Blk.new wr _ _
   have hb6:Below wr.heap.size wr W6:=by rw[←hW6];exact(zG _ _).alloc (zE _) _
   have k6:=kr.step hb6;have B6:=zA hBr hb6;have KX6:=hKX.trans (KepX.below hb6);have hz6:Z≤W6.heap.size:=yD hzr hb6.size;have Hown6:=zD (yO (B:=0) hown.out hb6);have Hrob6:=zD (show∀(j:Nat) (p:S14.P) (y:Lay),j<k→(S14.parts1 G N.parts k)[j]? = some p→ys[j]? = some y→PRobX (fun k=>k<w.heap.size∨k=w.heap.size+1∨k=NB∨k=g2) p y W6 from fun j p y hjk h1 h2=>(hrob.out j p y hjk h1 h2).kep (KepX.below hb6))
   have HX0:=zD (fun(W:World) (hW:Below W6.heap.size W6 W)=>HLH.out k x hx (some ⟨ga,oa,none⟩) W (zA B6 hW) (by
    have h1:=((HrdL.out.kepX hKX (fun g o e=>by cases e;show¬_=g2;omega)).step (zA hb6 hW)).take14 k;have h2:(zaO (S14.outs O np)).take k=zaO (S14.outs O k):=by
     unfold zaO;rw[←List.map_take,S14.outs_take O k np (by omega)]
    rwa[h2]at h1))
   have hCS:Cells W6 [(⟨Q,0,none⟩,.int .i64 x.kind),(⟨Q,1,none⟩,.int .i64 x.bits),(⟨Q,2,none⟩,.int .i64 x.limit),(⟨Q,3,none⟩,.int .i64 x.rate),(⟨Q,4,none⟩,.int .i64 x.first),(⟨Q,5,none⟩,.int .i64 x.second),(⟨w.heap.size,0,none⟩,.slice (some ⟨g,o,none⟩) np L.c1),(⟨w.heap.size,1,none⟩,.slice L.a2 np L.c2),(⟨w.heap.size,2,none⟩,.slice L.a3 16 L.c3),(⟨w.heap.size,3,none⟩,.int .i64 pt)]:=
    ⟨kQ.cell 0,kQ.cell 1,kQ.cell 2,kQ.cell 3,kQ.cell 4,kQ.cell 5,k6.cell 0,k6.cell 1,k6.cell 2,k6.cell 3,yJ⟩
   clear hb6 hown hrob hKX hcs1 hx kr hBr;go_wp2_with (first|(rw[hW6,hQ])|(rw[hW6])|fail);clear x0 x1 x2 x3 x4 x5;unfold LearnF CV zT at HX0;obtain⟨TT,FF,hof,hX3,hen,hme,hah⟩:∃(TT:TypeId) (FF:FuncId),OfV x = .iface TT (.agg #[.int .i64 x.kind,.int .i64 x.bits,.int .i64 x.limit,.int .i64 x.rate,.int .i64 x.first,.int .i64 x.second])∧(∀W,Below W6.heap.size W6 W→Calls Tryz.prog FF #[.agg #[.int .i64 x.kind,.int .i64 x.bits,.int .i64 x.limit,.int .i64 x.rate,.int .i64 x.first,.int .i64 x.second],.agg #[.slice (some ⟨g,o,none⟩) np L.c1,.slice L.a2 np L.c2,.slice L.a3 16 L.c3,.int .i64 pt,.int .i64 (k:Int),.slice (some ⟨ga,oa,none⟩) k k],.int .i64 bit] W fun e w'=>∃y,e = .returned (.tuple #[PV (G k) y,.int .i64 0])∧PRob 0 W.heap.size (G k) y w'∧Below W.heap.size W w')∧(∀args w,(callFunc FF args).run Tryz.prog w = .ok (.enter FF args) w)∧(∀w,(method 410 TT (.agg #[.int .i64 x.kind,.int .i64 x.bits,.int .i64 x.limit,.int .i64 x.rate,.int .i64 x.first,.int .i64 x.second]) "compactor/network.learn").run Tryz.prog w = .ok (FF,(.agg #[.int .i64 x.kind,.int .i64 x.bits,.int .i64 x.limit,.int .i64 x.rate,.int .i64 x.first,.int .i64 x.second])) w)∧(∀w,(nilAhead 410 TT (.agg #[.int .i64 x.kind,.int .i64 x.bits,.int .i64 x.limit,.int .i64 x.rate,.int .i64 x.first,.int .i64 x.second]) "compactor/network.learn").run Tryz.prog w = .ok (some false) w):=by
    by_cases k0:x.kind=0
    ·refine⟨115,172,?_,?_,enters_of Tryz.func172 (by kernel_rfl) rfl,ziT _,ziA _⟩
     ·unfold OfV CV zT;simp only[k0];rfl
     ·intro W hW;have:=HX0.out W hW;simp only[k0]at this⊢;exact this
    by_cases k1:x.kind=1
    ·refine⟨116,185,?_,?_,enters_of Tryz.func185 (by kernel_rfl) rfl,zlU _,zkO _⟩
     ·unfold OfV CV zT;simp only[k1];rfl
     ·intro W hW;have:=HX0.out W hW;simp only[k1]at this⊢;exact this
    by_cases k2:x.kind=2
    ·refine⟨117,214,?_,?_,enters_of Tryz.func214 (by kernel_rfl) rfl,zkB _,zjH _⟩
     ·unfold OfV CV zT;simp only[k2];rfl
     ·intro W hW;have:=HX0.out W hW;simp only[k2]at this⊢;exact this
    by_cases k3:x.kind=3
    ·refine⟨118,230,?_,?_,enters_of Tryz.func230 (by kernel_rfl) rfl,zkA _,zjG _⟩
     ·unfold OfV CV zT;simp only[k3];rfl
     ·intro W hW;have:=HX0.out W hW;simp only[k3]at this⊢;exact this
    by_cases k4:x.kind=4
    ·refine⟨119,257,?_,?_,enters_of Tryz.func257 (by kernel_rfl) rfl,zkC _,zjI _⟩
     ·unfold OfV CV zT;simp only[k4];rfl
     ·intro W hW;have:=HX0.out W hW;simp only[k4]at this⊢;exact this
    by_cases k5:x.kind=5
    ·refine⟨120,265,?_,?_,enters_of Tryz.func265 (by kernel_rfl) rfl,znK _,zmD _⟩
     ·unfold OfV CV zT;simp only[k5];rfl
     ·intro W hW;have:=HX0.out W hW;simp only[k5]at this⊢;exact this
    by_cases k6:x.kind=6
    ·refine⟨121,285,?_,?_,enters_of Tryz.func285 (by kernel_rfl) rfl,zjZ _,zjF _⟩
     ·unfold OfV CV zT;simp only[k6];rfl
     ·intro W hW;have:=HX0.out W hW;simp only[k6]at this⊢;exact this
    omega
   have HX:=zD hX3;clear hX3 HX0;go_wp2_with fail;refine zbM 19 1 (.read 0 (.read 2 (.read 3 (.read 4 (.read 5 (.read 6 (.read 7 (.read 8 (.read 9 (.two (.one 17 (.one 1 (.read 10 (.read 11 (.read 12 (.one 13 (.read 14 (.read 15 (.read 16 (.one 18 .done)))))))))) (.one 1 (.read 10 (.read 11 (.read 12 (.two (.one 17 (.one 13 (.read 14 (.read 15 (.read 16 (.one 18 .done)))))) (.one 13 (.read 14 (.read 15 (.read 16 (.one 17 (.one 18 .done))))))))))))))))))))) _ _ o0P (fun K=>Below W6.heap.size W6 K∧Cells K [(⟨Q,0,none⟩,.int .i64 x.kind),(⟨Q,1,none⟩,.int .i64 x.bits),(⟨Q,2,none⟩,.int .i64 x.limit),(⟨Q,3,none⟩,.int .i64 x.rate),(⟨Q,4,none⟩,.int .i64 x.first),(⟨Q,5,none⟩,.int .i64 x.second),(⟨w.heap.size,0,none⟩,.slice (some ⟨g,o,none⟩) np L.c1),(⟨w.heap.size,1,none⟩,.slice L.a2 np L.c2),(⟨w.heap.size,2,none⟩,.slice L.a3 16 L.c3),(⟨w.heap.size,3,none⟩,.int .i64 pt)]) (by kernel_rfl) (zaF 19 _).symm (by kernel_rfl) (by kernel_rfl) (by kernel_rfl) (by kernel_rfl) (⟨(zG _ _).drew,hCS⟩) (fun Y Q4 F4 hY hF=> ?_);simp only[Plan.map,ltc,ltz,ldc,ldz,List.getD_cons_zero,List.getD_cons_succ]
   repeat
    apply zV (by rw[hY];rfl)
    ·intro w2 hS2;(try simp only[Keeps,Cells]at hS2);go_simp;with_reducible rfl
    simp only[zrB]
   have fin:∀(I:Value) (y:Lay) (VS:List Value) (bP:Nat) (w9 wS:World),Hid (yG (G k) y=VS)→Below W6.heap.size W6 w9→PRobX (fun b=>b<w.heap.size∨b=w.heap.size+1∨b=NB∨b=g2∨b=bP) (G k) y w9→W6.heap.size≤bP→Blk wS bP VS 83→w9.grownBy wS (some bP)→
    F4 {tmps:=#[Value.agg #[Value.slice (some {block:=g,off:=o}) np L.c1,Value.slice L.a2 np L.c2,Value.slice L.a3 16 L.c3,Value.int IntKind.i64 pt],Value.int IntKind.i64 bit,Value.pointer (some {block:=w.heap.size,off:=0}),undef,Value.pointer (some {block:=w.heap.size+1,off:=0}),u5,Value.slice (some {block:=ga,off:=oa}) np cap,Value.int IntKind.i64 0,Value.pointer (some {block:=NB,off:=0}),Value.int IntKind.i64 (k:Int),Value.pointer (some {block:=Q,off:=0}),Value.pointer (some {block:=bP,off:=0}),u12,Value.tuple #[Value.slice (some {block:=ga,off:=oa}) np cap,Value.int IntKind.i64 0],Value.agg #[Value.slice (some {block:=g,off:=o}) np L.c1,Value.slice L.a2 np L.c2,Value.slice L.a3 16 L.c3,Value.int IntKind.i64 pt],Value.tuple #[Value.slice (some {block:=ga,off:=oa}) np cap,Value.int IntKind.i64 0],Value.slice (some {block:=ga,off:=oa}) np cap,Value.int IntKind.i64 0,Value.int IntKind.i64 0,Value.bool false,undef,undef,Value.int IntKind.i64 bit,Value.bool true,Value.bool false,undef,Value.agg #[Value.slice (some {block:=g,off:=o}) np L.c1,Value.slice L.a2 np L.c2,Value.slice L.a3 16 L.c3,Value.int IntKind.i64 pt],Value.agg #[Value.slice (some {block:=gC,off:=0}) np c1,Value.slice (some {block:=g2,off:=0}) np c2,Value.slice (some {block:=gX,off:=0}) 16 c3,Value.int IntKind.i64 pt],Value.pointer (some {block:=w.heap.size,off:=0}),Value.slice (some {block:=g,off:=o}) np L.c1,Value.int IntKind.i64 (np:Int),Value.int IntKind.i64 (k:Int),Value.bool true,Value.int IntKind.i64 (k:Int),Value.pointer (some {block:=g,off:=o+k*6}),Value.agg #[Value.int IntKind.i64 x.kind,Value.int IntKind.i64 x.bits,Value.int IntKind.i64 x.limit,Value.int IntKind.i64 x.rate,Value.int IntKind.i64 x.first,Value.int IntKind.i64 x.second],Value.tuple #[.agg VS.toArray,Value.int IntKind.i64 0],Value.agg #[Value.int IntKind.i64 x.kind,Value.int IntKind.i64 x.bits,Value.int IntKind.i64 x.limit,Value.int IntKind.i64 x.rate,Value.int IntKind.i64 x.first,Value.int IntKind.i64 x.second],I,Value.agg #[Value.slice (some {block:=g,off:=o}) np L.c1,Value.slice L.a2 np L.c2,Value.slice L.a3 16 L.c3,Value.int IntKind.i64 pt],Value.int IntKind.i64 (k:Int),Value.slice (some {block:=ga,off:=oa}) np cap,Value.int IntKind.i64 (k:Int),Value.int IntKind.i64 (k:Int),Value.slice (some {block:=ga,off:=oa}) k k,Value.agg #[Value.slice (some {block:=g,off:=o}) np L.c1,Value.slice L.a2 np L.c2,Value.slice L.a3 16 L.c3,Value.int IntKind.i64 pt,Value.int IntKind.i64 (k:Int),Value.slice (some {block:=ga,off:=oa}) k k],Value.int IntKind.i64 bit,Value.func (Fn.method "compactor/network.learn") #[I] #[],Value.func (Fn.method "compactor/network.learn") #[I] #[],I,Value.tuple #[.agg VS.toArray,Value.int IntKind.i64 0],.agg VS.toArray,Value.int IntKind.i64 0,u53,u54,u55,u56,u57,u58,u59,u60,u61,u62,undef,undef,undef,undef,undef,undef,undef,undef,undef,undef,undef,undef,undef,undef,undef,undef,undef,undef,undef,undef,undef,undef],defers:=[]} wS:=by
    intro I y VS bP w9 wS HVS hb9 hrob9 zP1 ES gS;refine hF.out _ _ (fun K hK=> ?_);have hV1:∀v∈VS,v.oneCell'=true:=HVS.out▸zaE (G k) y;have hVl:VS.length=16:=HVS.out▸rfl;have HV1:=zD hV1;have HVl:=zD hVl;clear hF hY hV1 hVl HX hen hme hah;go_wp2_with fail;refine OnlyK.mk (hK.out _ _ ?_);have hneb:g2≠bP:=by have:=(HXl.out g2 (.inr (.inr rfl))).2;omega
    have hneN:NB≠bP:=by have:=(HXl.out NB (.inr (.inl rfl))).2;omega
    have KX9:KepX (fun k=>k=g2) wL wS:=(KX6.trans (KepX.below hb9)).rowB gS (fun b e=>.inr (by have e:bP=b:=zO e;rw[hZ];omega));have nS:Blk wS NB [.slice (some ⟨gC,0,none⟩) np c1,.slice (some ⟨g2,0,none⟩) np c2,.slice (some ⟨gX,0,none⟩) 16 c3,.int .i64 pt] 26:=EL.kepX KX9 (show¬_=g2 by omega);have cN:=nS.cell 1;simp only[zrD]at cN;have HownS:=zD (zeY (X:=fun k=>k=bP) (yO (B:=0) Hown6.out hb9) (KepX.row gS (fun b e=>.inl (zO e).symm)) (fun g e=>by have e:some g2=some g:=e;cases e;exact hneb));have hth:=zdD (o:=k*16) (k:=16) HownS.out (by omega);have hth2:wS.there g2 (k*16) VS.toArray.size:=by rw[List.size_toArray,HVl.out];exact hth
    have HrobS:=zD (show∀(j:Nat) (p:S14.P) (y':Lay),j<k+1→(S14.parts1 G N.parts (k+1))[j]? = some p→(ys.set k y)[j]? = some y'→PRobX (fun k=>k<w.heap.size∨k=w.heap.size+1∨k=NB∨k=g2) p y' wS from fun j p y' hjk h1 h2=>by
     rw[S14.parts1]at h1;rw[List.getElem?_set]at h1 h2;have hpn:(S14.parts1 G N.parts k).length=np:=by rw[S14.parts1_length,Hnp.out]
     by_cases hj:k=j
     ·subst hj;rw[zU rfl,zU (by omega)]at h1 h2;cases h1;cases h2
      exact(hrob9.kep (KepX.row gS (fun b e=>.inl (.inr (.inr (.inr (.inr (zO e).symm))))))).change (fun b _ hb=>by
       rcases hb with h|h|h|h
       ·exact .inl h
       ·exact .inr (.inl h)
       ·exact .inr (.inr (.inl h))
       ·exact .inr (.inr (.inr (.inl h))))
     ·rw[zK hj]at h1 h2;exact(Hrob6.out j p y' (by omega) h1 h2).kep ((KepX.below hb9).rowB gS (fun b e=>.inr (by have e:bP=b:=zO e;omega))))
    clear hth gS hb9 hrob9 Hown6 Hrob6 hCS k6 kQ;go_wp2_with (first
     | (refine yC 83 (.tmp 11) (by rfl) (by rfl) bP (by rfl) VS 83 ES _ Tryz.underlying83 rfl (info_P.trans (yQ some HVl.out.symm)) ?_)
     | (refine wpList_store_mid (by rfl) 83 (.tmp 61) (.tmp 60) (by rfl) g2 (k*16) VS.toArray (by rfl) (by rfl) hth2 (info_P.trans (yQ some (HVl.out.symm.trans List.size_toArray.symm))) (all_oneCell_toArray HV1.out) ?_))
    have hown':=zgD (o:=k*16) (vs:=VS) HownS.out (by rw[HVl.out];omega);have hgs:=zaD g2 VS (k*16) wS;have hE:VS.toArray.toList=VS:=List.toList_toArray;rw[←HVS.out,←PCs_put _ _ _ _ _ (by rw[hys,S14.parts1_length,Hnp.out]) (by rw[S14.parts1_length,Hnp.out];exact hlt),HVS.out]at hown';have Hown':Hid ((wS.setCells g2 (k*16) VS).ownsRow D 83 16 (.slice (some ⟨g2,0,none⟩) np c2) np (PCs (S14.parts1 G N.parts (k+1)) (ys.set k y))):=zD hown';have KX':=KX9.trans (KepX.row hgs (fun b e=>.inl (zO e).symm));have Hrob':=zD (show∀(j:Nat) (p:S14.P) (y':Lay),j<k+1→(S14.parts1 G N.parts (k+1))[j]? = some p→(ys.set k y)[j]? = some y'→PRobX (fun k=>k<w.heap.size∨k=w.heap.size+1∨k=NB∨k=g2) p y' (wS.setCells g2 (k*16) VS)from fun j p y' hjk h1 h2=>(HrobS.out j p y' hjk h1 h2).kep (KepX.row hgs (fun b e=>.inl (.inr (.inr (.inr (zO e).symm))))));have hyl:(ys.set k y).length=np:=by rw[zdT,hys]
    clear hown' hgs HownS HrobS KX9 hth2 cN nS ES;go_roundw
    case rel=>exact⟨k+1,ys.set k y,by omega,by simp,hyl,hE▸Hown',hE▸KX',hE▸Hrob'⟩
    case measure=>simp[intOf];omega
   have hbv0:Below W6.heap.size W6 W6.drew:=(zG _ _).drew;obtain⟨v0,hv0⟩:∃v,W6.drew=v:=⟨_,rfl⟩;rw[hv0]at hbv0⊢;refine zaG ?_ ?_
   ·skip
    have hbv10:Below v0.heap.size v0 (v0.alloc (.cells #[.slice none 0 0,.int .i64 0,.slice none 0 0,.int .i64 0,.int .i64 0,.int .i64 0,.slice none 0 0,.slice none 0 0,.int .i64 0,.int .i64 0,.int .i64 0,.int .i64 0,.slice none 0 0,.int .i64 0,.slice none 0 0,.slice none 0 0] 83)):=(zG _ _).alloc (zE _) _;have hbv1:=zA hbv0 hbv10;refine yI (by rw[hY];rfl) (by go_simp;first|with_reducible exact⟨rfl,rfl⟩|with_reducible rfl) ((show Below W6.heap.size W6 (v0.alloc (.cells #[.slice none 0 0,.int .i64 0,.slice none 0 0,.int .i64 0,.int .i64 0,.int .i64 0,.slice none 0 0,.slice none 0 0,.int .i64 0,.int .i64 0,.int .i64 0,.int .i64 0,.slice none 0 0,.int .i64 0,.slice none 0 0,.slice none 0 0] 83))∧Cells (v0.alloc (.cells #[.slice none 0 0,.int .i64 0,.slice none 0 0,.int .i64 0,.int .i64 0,.int .i64 0,.slice none 0 0,.slice none 0 0,.int .i64 0,.int .i64 0,.int .i64 0,.int .i64 0,.slice none 0 0,.int .i64 0,.slice none 0 0,.slice none 0 0] 83)) [(⟨Q,0,none⟩,.int .i64 x.kind),(⟨Q,1,none⟩,.int .i64 x.bits),(⟨Q,2,none⟩,.int .i64 x.limit),(⟨Q,3,none⟩,.int .i64 x.rate),(⟨Q,4,none⟩,.int .i64 x.first),(⟨Q,5,none⟩,.int .i64 x.second),(⟨w.heap.size,0,none⟩,.slice (some ⟨g,o,none⟩) np L.c1),(⟨w.heap.size,1,none⟩,.slice L.a2 np L.c2),(⟨w.heap.size,2,none⟩,.slice L.a3 16 L.c3),(⟨w.heap.size,3,none⟩,.int .i64 pt)]from⟨hbv1,Cells.step hbv1 hCS⟩)) ?_;simp only[zrB];have kP:=Blk.new v0 [.slice none 0 0,.int .i64 0,.slice none 0 0,.int .i64 0,.int .i64 0,.int .i64 0,.slice none 0 0,.slice none 0 0,.int .i64 0,.int .i64 0,.int .i64 0,.int .i64 0,.slice none 0 0,.int .i64 0,.slice none 0 0,.slice none 0 0] 83;have zP1:W6.heap.size≤v0.heap.size:=hbv0.size;obtain⟨bP,hbP⟩:∃bP,v0.heap.size=bP:=⟨_,rfl⟩;obtain⟨v1,hv1⟩:∃v,v0.alloc (.cells #[.slice none 0 0,.int .i64 0,.slice none 0 0,.int .i64 0,.int .i64 0,.int .i64 0,.slice none 0 0,.slice none 0 0,.int .i64 0,.int .i64 0,.int .i64 0,.int .i64 0,.slice none 0 0,.int .i64 0,.slice none 0 0,.slice none 0 0] 83)=v:=⟨_,rfl⟩;have hwP:bP<v1.heap.size:=by rw[←hv1,←hbP];simp
    rw[hv1]at hbv1 hbv10 kP⊢;rw[hbP]at kP zP1 hbv10⊢;apply yH (by rw[hY];rfl)
    ·go_simp;with_reducible exact⟨rfl,rfl⟩
    refine(HO.out x _).mono ?_;rintro e v2 ⟨rfl,hbv20⟩;have hbv2:=zA hbv1 hbv20;refine⟨_,rfl,⟨hbv2,Cells.step hbv2 hCS⟩,?_⟩;simp only[zrB];rw[hof];have kP:=kP.step hbv20;have hwP:=zbH hwP hbv20.size
    repeat
     apply zV (by rw[hY];rfl)
     ·intro w2 hS2;(try simp only[Keeps,Cells]at hS2);go_simp;with_reducible rfl
     simp only[zrB]
    apply yH (by rw[hY];rfl)
    ·go_simp;first|with_reducible exact⟨rfl,rfl⟩|with_reducible rfl
    refine(HX.out v2 hbv2).mono ?_;rintro e v3 ⟨y,rfl,hPR,hbv30⟩;have hbv3:=zA hbv2 hbv30;have zW:W6.heap.size≤v2.heap.size:=hbv2.size;refine⟨_,rfl,⟨hbv3,Cells.step hbv3 hCS⟩,?_⟩;simp only[zrB];have kP:=kP.step hbv30
    repeat
     apply zV (by rw[hY];rfl)
     ·intro w2 hS2;(try simp only[Keeps,Cells]at hS2);go_simp;with_reducible rfl
     simp only[zrB]
    refine yX 83 (.tmp 11) (.tmp 51) (by rfl) (by rw[hY];rfl) bP (by rfl) (yG (G k) y) (by rfl) _ 83 kP info_P rfl (zaE _ _) ?_;intro wS ES gS sS;refine⟨(fun hb=>⟨hb,Cells.step hb hCS⟩) (hbv3.trans (yB gS zP1 hbv3.size)),?_⟩;simp only[zrB];refine yS (fin _ y _ bP _ wS (zD rfl) hbv3 (hPR.toX (fun b _ hb=> ?_)) zP1 ES gS);have hb:b<w.heap.size∨b=w.heap.size+1∨b=NB∨b=g2∨b=bP:=hb;rcases hb with h|h|h|h|h
    ·have:=HXl.out (w.heap.size+1) (.inl rfl);omega
    ·have:=HXl.out b (.inl h);omega
    ·have:=HXl.out b (.inr (.inl h));omega
    ·have:=HXl.out b (.inr (.inr h));omega
    ·omega
   ·skip
    apply yH (by rw[hY];rfl)
    ·go_simp;with_reducible exact⟨rfl,rfl⟩
    refine(HO.out x _).mono ?_;rintro e v1 ⟨rfl,hbv10⟩;have hbv1:=zA hbv0 hbv10;refine⟨_,rfl,⟨hbv1,Cells.step hbv1 hCS⟩,?_⟩;simp only[zrB];rw[hof]
    repeat
     apply zV (by rw[hY];rfl)
     ·intro w2 hS2;(try simp only[Keeps,Cells]at hS2);go_simp;with_reducible rfl
     simp only[zrB]
    refine zaG ?_ ?_
    ·skip
     have hbv20:Below v1.heap.size v1 (v1.alloc (.cells #[.slice none 0 0,.int .i64 0,.slice none 0 0,.int .i64 0,.int .i64 0,.int .i64 0,.slice none 0 0,.slice none 0 0,.int .i64 0,.int .i64 0,.int .i64 0,.int .i64 0,.slice none 0 0,.int .i64 0,.slice none 0 0,.slice none 0 0] 83)):=(zG _ _).alloc (zE _) _;have hbv2:=zA hbv1 hbv20;refine yI (by rw[hY];rfl) (by go_simp;first|with_reducible exact⟨rfl,rfl⟩|with_reducible rfl) ((show Below W6.heap.size W6 (v1.alloc (.cells #[.slice none 0 0,.int .i64 0,.slice none 0 0,.int .i64 0,.int .i64 0,.int .i64 0,.slice none 0 0,.slice none 0 0,.int .i64 0,.int .i64 0,.int .i64 0,.int .i64 0,.slice none 0 0,.int .i64 0,.slice none 0 0,.slice none 0 0] 83))∧Cells (v1.alloc (.cells #[.slice none 0 0,.int .i64 0,.slice none 0 0,.int .i64 0,.int .i64 0,.int .i64 0,.slice none 0 0,.slice none 0 0,.int .i64 0,.int .i64 0,.int .i64 0,.int .i64 0,.slice none 0 0,.int .i64 0,.slice none 0 0,.slice none 0 0] 83)) [(⟨Q,0,none⟩,.int .i64 x.kind),(⟨Q,1,none⟩,.int .i64 x.bits),(⟨Q,2,none⟩,.int .i64 x.limit),(⟨Q,3,none⟩,.int .i64 x.rate),(⟨Q,4,none⟩,.int .i64 x.first),(⟨Q,5,none⟩,.int .i64 x.second),(⟨w.heap.size,0,none⟩,.slice (some ⟨g,o,none⟩) np L.c1),(⟨w.heap.size,1,none⟩,.slice L.a2 np L.c2),(⟨w.heap.size,2,none⟩,.slice L.a3 16 L.c3),(⟨w.heap.size,3,none⟩,.int .i64 pt)]from⟨hbv2,Cells.step hbv2 hCS⟩)) ?_;simp only[zrB];have kP:=Blk.new v1 [.slice none 0 0,.int .i64 0,.slice none 0 0,.int .i64 0,.int .i64 0,.int .i64 0,.slice none 0 0,.slice none 0 0,.int .i64 0,.int .i64 0,.int .i64 0,.int .i64 0,.slice none 0 0,.int .i64 0,.slice none 0 0,.slice none 0 0] 83;have zP1:W6.heap.size≤v1.heap.size:=hbv1.size;obtain⟨bP,hbP⟩:∃bP,v1.heap.size=bP:=⟨_,rfl⟩;obtain⟨v2,hv2⟩:∃v,v1.alloc (.cells #[.slice none 0 0,.int .i64 0,.slice none 0 0,.int .i64 0,.int .i64 0,.int .i64 0,.slice none 0 0,.slice none 0 0,.int .i64 0,.int .i64 0,.int .i64 0,.int .i64 0,.slice none 0 0,.int .i64 0,.slice none 0 0,.slice none 0 0] 83)=v:=⟨_,rfl⟩;have hwP:bP<v2.heap.size:=by rw[←hv2,←hbP];simp
     rw[hv2]at hbv2 hbv20 kP⊢;rw[hbP]at kP zP1 hbv20⊢;apply yH (by rw[hY];rfl)
     ·go_simp;first|with_reducible exact⟨rfl,rfl⟩|with_reducible rfl
     refine(HX.out v2 hbv2).mono ?_;rintro e v3 ⟨y,rfl,hPR,hbv30⟩;have hbv3:=zA hbv2 hbv30;have zW:W6.heap.size≤v2.heap.size:=hbv2.size;refine⟨_,rfl,⟨hbv3,Cells.step hbv3 hCS⟩,?_⟩;simp only[zrB];have kP:=kP.step hbv30
     repeat
      apply zV (by rw[hY];rfl)
      ·intro w2 hS2;(try simp only[Keeps,Cells]at hS2);go_simp;with_reducible rfl
      simp only[zrB]
     refine yX 83 (.tmp 11) (.tmp 51) (by rfl) (by rw[hY];rfl) bP (by rfl) (yG (G k) y) (by rfl) _ 83 kP info_P rfl (zaE _ _) ?_;intro wS ES gS sS;refine⟨(fun hb=>⟨hb,Cells.step hb hCS⟩) (hbv3.trans (yB gS zP1 hbv3.size)),?_⟩;simp only[zrB];refine yS (fin _ y _ bP _ wS (zD rfl) hbv3 (hPR.toX (fun b _ hb=> ?_)) zP1 ES gS);have hb:b<w.heap.size∨b=w.heap.size+1∨b=NB∨b=g2∨b=bP:=hb;rcases hb with h|h|h|h|h
     ·have:=HXl.out (w.heap.size+1) (.inl rfl);omega
     ·have:=HXl.out b (.inl h);omega
     ·have:=HXl.out b (.inr (.inl h));omega
     ·have:=HXl.out b (.inr (.inr h));omega
     ·omega
    ·skip
     apply yH (by rw[hY];rfl)
     ·go_simp;first|with_reducible exact⟨rfl,rfl⟩|with_reducible rfl
     refine(HX.out v1 hbv1).mono ?_;rintro e v2 ⟨y,rfl,hPR,hbv20⟩;have hbv2:=zA hbv1 hbv20;have zW:W6.heap.size≤v1.heap.size:=hbv1.size;refine⟨_,rfl,⟨hbv2,Cells.step hbv2 hCS⟩,?_⟩;simp only[zrB]
     repeat
      apply zV (by rw[hY];rfl)
      ·intro w2 hS2;(try simp only[Keeps,Cells]at hS2);go_simp;with_reducible rfl
      simp only[zrB]
     have hbv30:Below v2.heap.size v2 (v2.alloc (.cells #[.slice none 0 0,.int .i64 0,.slice none 0 0,.int .i64 0,.int .i64 0,.int .i64 0,.slice none 0 0,.slice none 0 0,.int .i64 0,.int .i64 0,.int .i64 0,.int .i64 0,.slice none 0 0,.int .i64 0,.slice none 0 0,.slice none 0 0] 83)):=(zG _ _).alloc (zE _) _;have hbv3:=zA hbv2 hbv30;refine yI (by rw[hY];rfl) (by go_simp;first|with_reducible exact⟨rfl,rfl⟩|with_reducible rfl) ((show Below W6.heap.size W6 (v2.alloc (.cells #[.slice none 0 0,.int .i64 0,.slice none 0 0,.int .i64 0,.int .i64 0,.int .i64 0,.slice none 0 0,.slice none 0 0,.int .i64 0,.int .i64 0,.int .i64 0,.int .i64 0,.slice none 0 0,.int .i64 0,.slice none 0 0,.slice none 0 0] 83))∧Cells (v2.alloc (.cells #[.slice none 0 0,.int .i64 0,.slice none 0 0,.int .i64 0,.int .i64 0,.int .i64 0,.slice none 0 0,.slice none 0 0,.int .i64 0,.int .i64 0,.int .i64 0,.int .i64 0,.slice none 0 0,.int .i64 0,.slice none 0 0,.slice none 0 0] 83)) [(⟨Q,0,none⟩,.int .i64 x.kind),(⟨Q,1,none⟩,.int .i64 x.bits),(⟨Q,2,none⟩,.int .i64 x.limit),(⟨Q,3,none⟩,.int .i64 x.rate),(⟨Q,4,none⟩,.int .i64 x.first),(⟨Q,5,none⟩,.int .i64 x.second),(⟨w.heap.size,0,none⟩,.slice (some ⟨g,o,none⟩) np L.c1),(⟨w.heap.size,1,none⟩,.slice L.a2 np L.c2),(⟨w.heap.size,2,none⟩,.slice L.a3 16 L.c3),(⟨w.heap.size,3,none⟩,.int .i64 pt)]from⟨hbv3,Cells.step hbv3 hCS⟩)) ?_;simp only[zrB];have kP:=Blk.new v2 [.slice none 0 0,.int .i64 0,.slice none 0 0,.int .i64 0,.int .i64 0,.int .i64 0,.slice none 0 0,.slice none 0 0,.int .i64 0,.int .i64 0,.int .i64 0,.int .i64 0,.slice none 0 0,.int .i64 0,.slice none 0 0,.slice none 0 0] 83;have zP1:W6.heap.size≤v2.heap.size:=hbv2.size;obtain⟨bP,hbP⟩:∃bP,v2.heap.size=bP:=⟨_,rfl⟩;obtain⟨v3,hv3⟩:∃v,v2.alloc (.cells #[.slice none 0 0,.int .i64 0,.slice none 0 0,.int .i64 0,.int .i64 0,.int .i64 0,.slice none 0 0,.slice none 0 0,.int .i64 0,.int .i64 0,.int .i64 0,.int .i64 0,.slice none 0 0,.int .i64 0,.slice none 0 0,.slice none 0 0] 83)=v:=⟨_,rfl⟩;have hwP:bP<v3.heap.size:=by rw[←hv3,←hbP];simp
     rw[hv3]at hbv3 hbv30 kP⊢;rw[hbP]at kP zP1 hbv30⊢;refine yX 83 (.tmp 11) (.tmp 51) (by rfl) (by rw[hY];rfl) bP (by rfl) (yG (G k) y) (by rfl) _ 83 kP info_P rfl (zaE _ _) ?_;intro wS ES gS sS;refine⟨(fun hb=>⟨hb,Cells.step hb hCS⟩) (hbv3.trans (yB gS zP1 hbv3.size)),?_⟩;simp only[zrB];refine yS (fin _ y _ bP _ wS (zD rfl) hbv3 ((hPR.toX (fun b hb0 hb=> ?_)).kep (KepX.below (hbP.symm▸hbv30))) zP1 ES gS);have hb:b<w.heap.size∨b=w.heap.size+1∨b=NB∨b=g2∨b=bP:=hb;rcases hb with h|h|h|h|h
     ·have:=HXl.out (w.heap.size+1) (.inl rfl);omega
     ·have:=HXl.out b (.inl h);omega
     ·have:=HXl.out b (.inr (.inl h));omega
     ·have:=HXl.out b (.inr (.inr h));omega
     ·omega
  ·obtain rfl:k=np:=by omega
   have nr:Blk wr NB [.slice (some ⟨gC,0,none⟩) k c1,.slice (some ⟨g2,0,none⟩) k c2,.slice (some ⟨gX,0,none⟩) 16 c3,.int .i64 pt] 26:=EL.kepX hKX (show¬_=g2 by omega);have rr:=rL.kepX hKX (show¬_=g2 by omega);have hlm:(S14.parts1 G N.parts k).length=k:=by rw[S14.parts1_length,Hnp.out]
   have hzr2:∀b,(b=w.heap.size+1∨b=NB)→b<wr.heap.size:=fun b hb=>by
    have h1:=HXl.out b (by rcases hb with h|h;exact .inl h;exact .inr (.inl h));omega
   have hNI:∀(V:Int) W2,KepX (fun b=>b<w.heap.size∨b=w.heap.size+1∨b=NB) wr W2→NIs ⟨N.comps,S14.parts1 G N.parts k,N.ctxs,V⟩ ⟨some ⟨gC,0,none⟩,c1,some ⟨g2,0,none⟩,c2,some ⟨gX,0,none⟩,c3,ys⟩ W2:=fun V W2 h2=>
    {rc:=(HrC.out.kepX hKX (fun g o e=>by cases e;exact hneCP)).kepX h2 (fun g o e=>by cases e;show¬(_<_∨_=_∨_=_);omega)
     rp:=(Rd.of_owns hown.out).kepX h2 (fun g o e=>by cases e;show¬(_<_∨_=_∨_=_);omega)
     rx:=(HrX.out.kepX hKX (fun g o e=>by cases e;exact hneXP)).kepX h2 (fun g o e=>by cases e;show¬(_<_∨_=_∨_=_);omega)
     ly:=by rw[hys];exact hlm.symm
     ps:=fun j p y h1 h3=>(((hrob.out j p y (by have h4:j<ys.length:=(List.getElem?_eq_some_iff.1 h3).1;omega) h1 h3).change (fun b _ hb=>by
      rcases hb with h|h|h
      ·exact .inl h
      ·exact .inr (.inl h)
      ·exact .inr (.inr (.inl h)))).kep h2).is
     xs:=HN.out.xs
     l1:=⟨by show N.comps.length≤_;rw[Hnc.out];exact hC3,hC4⟩
     l2:=⟨by show(S14.parts1 G N.parts k).length≤_;rw[hlm];exact hP3,hP4⟩
     l3:=⟨by show N.ctxs.length≤_;rw[Hnx.out];exact hX3,hX4⟩}
   have HNI:=zD hNI
   have HT:=zD (show∀(V:Int) (wB:World),S14.next pt bit=V→KepX (fun b=>b=w.heap.size+1∨b=NB) wr wB→S14.opens V→
    Calls Tryz.prog 44 #[.agg #[.slice (some ⟨gC,0,none⟩) k c1,.slice (some ⟨g2,0,none⟩) k c2,.slice (some ⟨gX,0,none⟩) 16 c3,.int .i64 (V)]] wB fun e w'=>∃L',e = .returned (.agg #[.slice L'.a1 N2.comps.length L'.c1,.slice L'.a2 N2.parts.length L'.c2,.slice L'.a3 N2.ctxs.length L'.c3,.int .i64 N2.part])∧
     (∀W2,KepX (fun b=>b<w.heap.size∨b=w.heap.size+1∨b=NB) w' W2→NIs N2 L' W2)∧KepX (fun b=>(Value.slice (some ⟨g2,0,none⟩) k c2).ownBlock=some b) wB w' from fun V wB hV hkB hop=>by
    have h1:=HP1.out (by rw[Hpt.out,hV];exact hop) ⟨some ⟨gC,0,none⟩,c1,some ⟨g2,0,none⟩,c2,some ⟨gX,0,none⟩,c3,ys⟩ wB (fun b=>b<w.heap.size∨b=w.heap.size+1∨b=NB)
     (hkB.toBelow hBr (fun b e=>by have e:b=w.heap.size+1∨b=NB:=e;omega)) (fun b e=>zbH (e.elim (fun h=>by have h3:=hzr2 (w.heap.size+1) (.inl rfl);omega) (hzr2 b)) hkB.size)
     (by
       rw[Hnc.out,Hpt.out,hV];exact fun W2 h2=>HNI.out V W2 ((hkB.mono (fun b _ h=>.inr h)).trans h2))
     (by
       rw[Hnc.out];show wB.ownsRow w.heap.size 83 16 (.slice (some ⟨g2,0,none⟩) (S14.parts1 G N.parts k).length c2) (S14.parts1 G N.parts k).length (PCs (S14.parts1 G N.parts k) ys);rw[hlm];exact zcM (zeY hown.out hkB (fun g e=>by have e:some g2=some g:=e;cases e;show¬(_=_∨_=_);omega)) (by omega))
     (by
       rw[Hnc.out];intro j p y h1 h3;have hjk:j<k:=by have h4:j<ys.length:=(List.getElem?_eq_some_iff.1 h3).1;omega
       refine((hrob.out j p y hjk h1 h3).change (fun b _ hb=> ?_)).kep (hkB.mono (fun b _ hb=>.inl (.inr hb)));rcases hb with(h|h|h)|h
       ·exact .inl h
       ·exact .inr (.inl h)
       ·exact .inr (.inr (.inl h))
       ·have h:(Value.slice (some ⟨g2,0,none⟩) (S14.parts1 G N.parts k).length c2).ownBlock=some b:=h;exact .inr (.inr (.inr (zO h).symm)))
     (fun b hb=>by
       have hb:some g2=some b:=hb;have:=zO hb;show¬(_<_∨_=_∨_=_);omega)
     (fun W2 h2=>by
       have h2:KepX (fun b=>(b<w.heap.size∨b=w.heap.size+1∨b=NB)∨some g2=some b) wB W2:=h2
       refine⟨((HrC.out.kepX hKX (fun g o e=>by cases e;exact hneCP)).kepX hkB (fun g o e=>by cases e;show¬(_=_∨_=_);omega)).kepX h2 (fun g o e=>by cases e;exact fun h=>h.elim (fun h=>by omega) (fun h=>hneCP (zO h).symm)),
        ((HrX.out.kepX hKX (fun g o e=>by cases e;exact hneXP)).kepX hkB (fun g o e=>by cases e;show¬(_=_∨_=_);omega)).kepX h2 (fun g o e=>by cases e;exact fun h=>h.elim (fun h=>by omega) (fun h=>hneXP (zO h).symm))⟩)
    unfold NV zbP at h1;rw[Hnc.out,Hpt.out,hV]at h1;simp only[hlm,Hnc.out,Hnx.out]at h1;exact h1)
   clear hNI hown hrob hKX;have hp:=Hpp.out;have hb01:0≤bit∧bit≤1:=by rcases Hb01.out with h|h<;>omega
   obtain⟨hp1,hp2⟩:=hp;obtain⟨hb0,hb1⟩:=hb01;have c03:=kr.cell 3;have f3:=nr.cell 3;have f3f:=nr.free 3;have nA:=nr.set 3 (.int .i64 (2*pt+bit));have rA:=rr.other NB 3 (.int .i64 (2*pt+bit)) (by omega);have hkA:KepX (fun b=>b=w.heap.size+1∨b=NB) wr (wr.setCell ⟨NB,3,none⟩ (.int .i64 (2*pt+bit))):=KepX.row (zaK wr NB 3 (.int .i64 (2*pt+bit))) (fun b e=>.inl (.inr (zO e).symm));have a3:=nA.cell 3;have a3f:=nA.free 3;simp only[sC0,sCs,lgz,lgs]at c03 f3 nA a3;by_cases hgt:255<2*pt+bit
   ·have hnx:S14.next pt bit=1:=by unfold S14.next;rw[zU (by omega)]
    have hop:S14.opens 1:=.inl rfl;have nB:=nA.set 3 (.int .i64 1);have rB:=rA.other NB 3 (.int .i64 1) (by omega);have hkB:=hkA.trans (KepX.row (X:=fun b=>b=w.heap.size+1∨b=NB) (zaK (wr.setCell ⟨NB,3,none⟩ (.int .i64 (2*pt+bit))) NB 3 (.int .i64 1)) (fun b e=>.inl (.inr (zO e).symm)));have b3:=nB.cell 3;simp only[sC0,sCs,lgz,lgs]at nB b3;clear nr rr kr nA rA hkA;have HTo:=HT.out (1) _ hnx hkB hop;go_wp2_with (first
     | (refine yC 26 (.tmp 8) (by rfl) (by rfl) NB (by rfl) [.slice (some ⟨gC,0,none⟩) k c1,.slice (some ⟨g2,0,none⟩) k c2,.slice (some ⟨gX,0,none⟩) 16 c3,.int .i64 (1)] 26 nB _ Tryz.underlying26 rfl info_N ?_))
    refine HTo.mono ?_;rintro e w8 ⟨L',rfl,hN',hk8⟩;have n8:=nB.kepX hk8 (fun e=>by have e:some g2=some NB:=e;have:=zO e;omega);have r8:=rB.kepX hk8 (fun e=>by have e:some g2=some (w.heap.size+1):=e;have:=zO e;omega);have B8:=hk8.toBelow (hkB.toBelow hBr (fun b e=>by have e:b=w.heap.size+1∨b=NB:=e;omega)) (fun b e=>by have e:some g2=some b:=e;have:=zO e;omega);have HN':=zD hN';clear hN' hk8 nB rB hkB HTo;go_wp2_with (first
     | (refine yE 26 (.tmp 8) (.tmp 83) (by rfl) (by rfl) NB (by rfl) [.slice L'.a1 N2.comps.length L'.c1,.slice L'.a2 N2.parts.length L'.c2,.slice L'.a3 N2.ctxs.length L'.c3,.int .i64 N2.part] (by rfl) _ 26 n8 info_N rfl (by simp[Value.oneCell']) ?_;intro wM EM gM sM;have rM:=r8.keptRow gM (by simp;omega))
     | (refine yC 26 (.tmp 8) (by rfl) (by rfl) NB (by rfl) [.slice L'.a1 N2.comps.length L'.c1,.slice L'.a2 N2.parts.length L'.c2,.slice L'.a3 N2.ctxs.length L'.c3,.int .i64 N2.part] 26 EM _ Tryz.underlying26 rfl info_N ?_)
     | (refine yE 26 (.tmp 4) (.tmp 84) (by rfl) (by rfl) (w.heap.size+1) (by rfl) [.slice L'.a1 N2.comps.length L'.c1,.slice L'.a2 N2.parts.length L'.c2,.slice L'.a3 N2.ctxs.length L'.c3,.int .i64 N2.part] (by rfl) _ 26 rM info_N rfl (by simp[Value.oneCell']) ?_;intro wR ER gR sR))
    have hL:=run_loadVar_mid wR _ 0 _ _ _ ER.cells Tryz.underlying26 rfl info_N;refine bodyPost_ret (v:=.tuple #[.agg #[.slice L'.a1 N2.comps.length L'.c1,.slice L'.a2 N2.parts.length L'.c2,.slice L'.a3 N2.ctxs.length L'.c3,.int .i64 N2.part],.int .i64 0]) ?_ rfl ?_
    ·exact zaX (show Tryz.f25.results = #[.cell 4 26,.tmp 5]from rfl) (p:=⟨w.heap.size+1,0,none⟩) rfl rfl hL
    ·exact⟨L',rfl,fun W hW=>HN'.out W (((KepX.row gM (fun b e=>.inl (.inr (.inr (zO e).symm)))).trans (KepX.row gR (fun b e=>.inl (.inr (.inl (zO e).symm))))).trans (hW.mono (fun b _ h=>.inl h))),(B8.trans (yB gM (by omega) B8.size)).trans (yB gR (by omega) (by have:=B8.size;omega))⟩
   ·have hnx0:S14.next pt bit=2*pt+bit:=by unfold S14.next;rw[zK (by omega)]
    have hne1:2*pt+bit≠1:=by omega
    have hq1:(2*pt+bit==1)=false:=by simpa using hne1
    have nB:=nA;have rB:=rA;have hkB:=hkA;have hnx:=hnx0;clear nr rr kr nA rA hkA;by_cases h16:(2*pt+bit)/16=1
    ·have hop:S14.opens (2*pt+bit):=.inr (by omega);have hq2:((2*pt+bit)/16==1)=true:=by simpa using h16
     have HTo:=HT.out (2*pt+bit) _ hnx hkB hop;go_wp2_with (first
      | (refine yC 26 (.tmp 8) (by rfl) (by rfl) NB (by rfl) [.slice (some ⟨gC,0,none⟩) k c1,.slice (some ⟨g2,0,none⟩) k c2,.slice (some ⟨gX,0,none⟩) 16 c3,.int .i64 (2*pt+bit)] 26 nB _ Tryz.underlying26 rfl info_N ?_))
     refine HTo.mono ?_;rintro e w8 ⟨L',rfl,hN',hk8⟩;have n8:=nB.kepX hk8 (fun e=>by have e:some g2=some NB:=e;have:=zO e;omega);have r8:=rB.kepX hk8 (fun e=>by have e:some g2=some (w.heap.size+1):=e;have:=zO e;omega);have B8:=hk8.toBelow (hkB.toBelow hBr (fun b e=>by have e:b=w.heap.size+1∨b=NB:=e;omega)) (fun b e=>by have e:some g2=some b:=e;have:=zO e;omega);have HN':=zD hN';clear hN' hk8 nB rB hkB HTo;go_wp2_with (first
      | (refine yE 26 (.tmp 8) (.tmp 83) (by rfl) (by rfl) NB (by rfl) [.slice L'.a1 N2.comps.length L'.c1,.slice L'.a2 N2.parts.length L'.c2,.slice L'.a3 N2.ctxs.length L'.c3,.int .i64 N2.part] (by rfl) _ 26 n8 info_N rfl (by simp[Value.oneCell']) ?_;intro wM EM gM sM;have rM:=r8.keptRow gM (by simp;omega))
      | (refine yC 26 (.tmp 8) (by rfl) (by rfl) NB (by rfl) [.slice L'.a1 N2.comps.length L'.c1,.slice L'.a2 N2.parts.length L'.c2,.slice L'.a3 N2.ctxs.length L'.c3,.int .i64 N2.part] 26 EM _ Tryz.underlying26 rfl info_N ?_)
      | (refine yE 26 (.tmp 4) (.tmp 84) (by rfl) (by rfl) (w.heap.size+1) (by rfl) [.slice L'.a1 N2.comps.length L'.c1,.slice L'.a2 N2.parts.length L'.c2,.slice L'.a3 N2.ctxs.length L'.c3,.int .i64 N2.part] (by rfl) _ 26 rM info_N rfl (by simp[Value.oneCell']) ?_;intro wR ER gR sR))
     have hL:=run_loadVar_mid wR _ 0 _ _ _ ER.cells Tryz.underlying26 rfl info_N;refine bodyPost_ret (v:=.tuple #[.agg #[.slice L'.a1 N2.comps.length L'.c1,.slice L'.a2 N2.parts.length L'.c2,.slice L'.a3 N2.ctxs.length L'.c3,.int .i64 N2.part],.int .i64 0]) ?_ rfl ?_
     ·exact zaX (show Tryz.f25.results = #[.cell 4 26,.tmp 5]from rfl) (p:=⟨w.heap.size+1,0,none⟩) rfl rfl hL
     ·exact⟨L',rfl,fun W hW=>HN'.out W (((KepX.row gM (fun b e=>.inl (.inr (.inr (zO e).symm)))).trans (KepX.row gR (fun b e=>.inl (.inr (.inl (zO e).symm))))).trans (hW.mono (fun b _ h=>.inl h))),(B8.trans (yB gM (by omega) B8.size)).trans (yB gR (by omega) (by have:=B8.size;omega))⟩
    ·have hop:¬S14.opens (2*pt+bit):=fun h=>by
      rcases h with h|h
      ·omega
      ·omega
     have hq2:((2*pt+bit)/16==1)=false:=by simpa using h16
     have e2:=HP0.out (by rw[Hpt.out,hnx0];exact hop);have hNf:=HNI.out (2*pt+bit);rw[Hnc.out,Hpt.out,hnx0]at e2;have HN2:=zD e2;clear e2;have HNf:=zD hNf;clear hNf;go_wp2_with (first
      | (refine yC 26 (.tmp 8) (by rfl) (by rfl) NB (by rfl) [.slice (some ⟨gC,0,none⟩) k c1,.slice (some ⟨g2,0,none⟩) k c2,.slice (some ⟨gX,0,none⟩) 16 c3,.int .i64 (2*pt+bit)] 26 nB _ Tryz.underlying26 rfl info_N ?_)
      | (refine yE 26 (.tmp 4) (.tmp 84) (by rfl) (by rfl) (w.heap.size+1) (by rfl) [.slice (some ⟨gC,0,none⟩) k c1,.slice (some ⟨g2,0,none⟩) k c2,.slice (some ⟨gX,0,none⟩) 16 c3,.int .i64 (2*pt+bit)] (by rfl) _ 26 rB info_N rfl (by simp[Value.oneCell']) ?_;intro wR ER gR sR))
     have hL:=run_loadVar_mid wR _ 0 _ _ _ ER.cells Tryz.underlying26 rfl info_N;have Bf:=hkB.toBelow hBr (fun b e=>by have e:b=w.heap.size+1∨b=NB:=e;omega);refine bodyPost_ret (v:=.tuple #[.agg #[.slice (some ⟨gC,0,none⟩) k c1,.slice (some ⟨g2,0,none⟩) k c2,.slice (some ⟨gX,0,none⟩) 16 c3,.int .i64 (2*pt+bit)],.int .i64 0]) ?_ rfl ?_
     ·exact zaX (show Tryz.f25.results = #[.cell 4 26,.tmp 5]from rfl) (p:=⟨w.heap.size+1,0,none⟩) rfl rfl hL
     ·refine⟨⟨some ⟨gC,0,none⟩,c1,some ⟨g2,0,none⟩,c2,some ⟨gX,0,none⟩,c3,ys⟩,?_,?_,Bf.trans (yB gR (by omega) Bf.size)⟩
      ·rw[HN2.out];simp only[hlm,Hnc.out,Hnx.out]
      ·rw[HN2.out];exact fun W hW=>HNf.out W (((hkB.mono (fun b _ h=>.inr h)).trans (KepX.row gR (fun b e=>.inl (.inr (.inl (zO e).symm))))).trans (hW.mono (fun b _ h=>.inl h)))
theorem zoF(n:Nat)(a:Option Addr)(c:Nat)(w:World):Calls Tryz.prog 75 #[.slice a n c,.slice none 0 0] w fun e w'=>e = .returned (.bool (decide (n=0)))∧Below w.heap.size w w':=by
 by_cases h:n=0
 ·subst h;exact zgC [] a none c 0 w (by simp) (Rd.nil _ _) (Rd.nil _ _)
 ·have hd:((n:Int)==0)=false:=by simp[h]
  rw[zL h];go_enter Tryz.func75,Tryz.ntmps75;go_wp2;go_returns;exact⟨rfl,by go_grown⟩
theorem strOfNums_ne{xs:List Int}(h:¬xs.length=0):(strOfNums xs).toList.isEmpty=false:=by
 rw[ByteArray.toList_eq,strOfNums_data,List.isEmpty_eq_false_iff];intro e;have:=yQ List.length e;rw[zaA]at this;exact h this
theorem zcQ(m:S12.M)(p:Pl)(w:World)(hM:MIs m p w) :
 Calls Tryz.prog 77 #[MV m p,.agg #[.int .i64 0,.int .i64 0,.slice none 0 0,.slice none 0 0,.int .i64 0,.int .i64 0,.int .i64 0,.int .i64 0,.slice none 0 0]] w fun e w'=>e = .returned (.bool (S14.noM m))∧Below w.heap.size w w':=by
 have hrb:=hM.rdb;clear hM;obtain⟨bits,least,heads,bytes,at_,len,part,bit,ctrs⟩:=m;obtain⟨ah,ch,ab,cb,ac,cc⟩:=p;obtain⟨R,hR⟩:∃R,S14.noM ⟨bits,least,heads,bytes,at_,len,part,bit,ctrs⟩=R:=⟨_,rfl⟩;rw[hR];unfold S14.noM at hR;unfold MV zbQ;simp only at hR hrb⊢;have HS:=zD fun W=>zoF ctrs.length ac cc W;obtain⟨W1,hW1⟩:∃W1,(w.alloc (.cells #[.int .i64 bits,.int .i64 least,.slice ah heads.length ch,.slice ab bytes.length cb,.int .i64 at_,.int .i64 len,.int .i64 part,.int .i64 bit,.slice ac ctrs.length cc] 77)).alloc (.cells #[.int .i64 0,.int .i64 0,.slice none 0 0,.slice none 0 0,.int .i64 0,.int .i64 0,.int .i64 0,.int .i64 0,.slice none 0 0] 77)=W1:=⟨_,rfl⟩;have B1:Below w.heap.size w W1:=by rw[←hW1];exact((zG _ _).alloc (zE _) _).alloc (by simp) _
 have hcv:=conv12 bytes ab cb W1 (hrb.step B1);have hcz:=conv12 [] none 0 W1 (Rd.nil _ _);have hs0:strOfNums []=ByteArray.empty:=rfl;have hsn:=strOfNums_ne (xs:=bytes);have hsz:bytes.length=0→strOfNums bytes=ByteArray.empty:=fun h=>by rw[List.length_eq_zero_iff.1 h];rfl
 rw[hs0]at hcz;obtain⟨st,hst⟩:∃st,strOfNums bytes=st:=⟨_,rfl⟩;rw[hst]at hcv hsn hsz;simp only[List.length_nil]at hcz;obtain⟨nh,hnh⟩:∃n,heads.length=n:=⟨_,rfl⟩;obtain⟨nb,hnb⟩:∃n,bytes.length=n:=⟨_,rfl⟩;obtain⟨nc,hnc⟩:∃n,ctrs.length=n:=⟨_,rfl⟩;rw[hnh,hnb,hnc]at hR;rw[hnb]at hcv hsn hsz;rw[hnh,hnb,hnc]at hW1;rw[hnc]at HS;rw[hnh,hnb,hnc];have k1:Blk W1 w.heap.size [.int .i64 bits,.int .i64 least,.slice ah nh ch,.slice ab nb cb,.int .i64 at_,.int .i64 len,.int .i64 part,.int .i64 bit,.slice ac nc cc] 77:=by rw[←hW1];exact(Blk.new w _ _).alloc _
 have k2:Blk W1 (w.heap.size+1) [.int .i64 0,.int .i64 0,.slice none 0 0,.slice none 0 0,.int .i64 0,.int .i64 0,.int .i64 0,.int .i64 0,.slice none 0 0] 77:=by
  have h:=Blk.new (w.alloc (.cells #[.int .i64 bits,.int .i64 least,.slice ah nh ch,.slice ab nb cb,.int .i64 at_,.int .i64 len,.int .i64 part,.int .i64 bit,.slice ac nc cc] 77)) [.int .i64 0,.int .i64 0,.slice none 0 0,.slice none 0 0,.int .i64 0,.int .i64 0,.int .i64 0,.int .i64 0,.slice none 0 0] 77;rw[←hW1];simpa using h
 clear hst hnh hnb hnc hrb hs0;obtain⟨x0,x1,x2,x3,x4,x5,x6,x7,x8⟩:=k1.nine;obtain⟨y0,y1,y2,y3,y4,y5,y6,y7,y8⟩:=k2.nine;clear k1 k2;by_cases d0:bits=0
 ·subst d0;have e0:((0:Int)==0)=true:=rfl;by_cases d1:least=0
  ·subst d1;have e1:((0:Int)==0)=true:=rfl;by_cases d2:at_=0
   ·subst d2;have e2:((0:Int)==0)=true:=rfl;by_cases d3:len=0
    ·subst d3;have e3:((0:Int)==0)=true:=rfl;by_cases d4:part=0
     ·subst d4;have e4:((0:Int)==0)=true:=rfl;by_cases d5:bit=0
      ·subst d5;have e5:((0:Int)==0)=true:=rfl;by_cases d6:nh=0
       ·subst d6;by_cases d7:nb=0
        ·obtain rfl:=hsz d7;subst d7;have e7:(ByteArray.empty.toList==ByteArray.empty.toList)=true:=by simp
         have hfin:decide (nc=0)=R:=by rw[←hR];simp[*]
         clear hR;go_enter Tryz.func77,Tryz.ntmps77;go_wp2_with (rw[hW1]);go_loopw [5] (fun i wr=>i = .int .i64 (0:Int)∧wr=W1) (fun i _=>0)
         case atStart=>exact⟨rfl,rfl⟩
         case round=>
          obtain⟨rfl,rfl⟩:=hrel;go_wp2_with fail;refine(HS.out _).mono ?_;rintro e w5 ⟨rfl,hb5⟩;have B5:=zA B1 hb5;go_wp2_with fail;go_returns;exact⟨by first|rfl|exact yZ hfin,B5⟩
        ·obtain rfl:R=false:=by rw[←hR];simp[d7]
         clear hR;have e7:=hsn d7;go_enter Tryz.func77,Tryz.ntmps77;go_wp2_with (rw[hW1]);go_wp2;go_returns;exact⟨by first|rfl|simp,by first|exact B1|(rw[hW1];exact B1)⟩
       ·obtain rfl:R=false:=by rw[←hR];simp[d6]
        clear hR;have e6:((nh:Int)==0)=false:=by simp[d6]
        go_enter Tryz.func77,Tryz.ntmps77;go_wp2_with (rw[hW1]);go_wp2;go_returns;exact⟨by first|rfl|simp,by first|exact B1|(rw[hW1];exact B1)⟩
      ·obtain rfl:R=false:=by rw[←hR];simp[d5]
       clear hR;have e5:(bit==0)=false:=by simp[d5]
       go_enter Tryz.func77,Tryz.ntmps77;go_wp2_with (rw[hW1]);go_wp2;go_returns;exact⟨by first|rfl|simp,by first|exact B1|(rw[hW1];exact B1)⟩
     ·obtain rfl:R=false:=by rw[←hR];simp[d4]
      clear hR;have e4:(part==0)=false:=by simp[d4]
      go_enter Tryz.func77,Tryz.ntmps77;go_wp2_with (rw[hW1]);go_wp2;go_returns;exact⟨by first|rfl|simp,by first|exact B1|(rw[hW1];exact B1)⟩
    ·obtain rfl:R=false:=by rw[←hR];simp[d3]
     clear hR;have e3:(len==0)=false:=by simp[d3]
     go_enter Tryz.func77,Tryz.ntmps77;go_wp2_with (rw[hW1]);go_wp2;go_returns;exact⟨by first|rfl|simp,by first|exact B1|(rw[hW1];exact B1)⟩
   ·obtain rfl:R=false:=by rw[←hR];simp[d2]
    clear hR;have e2:(at_==0)=false:=by simp[d2]
    go_enter Tryz.func77,Tryz.ntmps77;go_wp2_with (rw[hW1]);go_wp2;go_returns;exact⟨by first|rfl|simp,by first|exact B1|(rw[hW1];exact B1)⟩
  ·obtain rfl:R=false:=by rw[←hR];simp[d1]
   clear hR;have e1:(least==0)=false:=by simp[d1]
   go_enter Tryz.func77,Tryz.ntmps77;go_wp2_with (rw[hW1]);go_wp2;go_returns;exact⟨by first|rfl|simp,by first|exact B1|(rw[hW1];exact B1)⟩
 ·obtain rfl:R=false:=by rw[←hR];simp[d0]
  clear hR;have e0:(bits==0)=false:=by simp[d0]
  go_enter Tryz.func77,Tryz.ntmps77;go_wp2_with (rw[hW1]);go_wp2;go_returns;exact⟨by first|rfl|simp,by first|exact B1|(rw[hW1];exact B1)⟩
theorem zgG(xs:List (Int×Int))(a:Option Addr)(c n:Nat)(limit:Int)(w:World)(hl:xs.length≤9223372036854775807)(hrd:Rd w a (Cts xs)) :
 Calls Tryz.prog 80 #[.slice a xs.length c,.int .i64 (n:Int),.int .i64 limit] w fun e w'=>e = .returned (.bool (S14.okCtrs xs n limit))∧Below w.heap.size w w':=by
 have HC:=zD fun(x:Int×Int) W=>zhG x.1 x.2 limit W;have hat:∀k,k<xs.length→∃x:Int×Int,xs[k]? = some x∧(Cts xs)[k*2]? = some (.int .i64 x.1)∧(Cts xs)[k*2+1]? = some (.int .i64 x.2):=fun k hk=>⟨xs[k]'hk,zI hk,zgR hk⟩;have Hat:=zD hat;have Hne:=zD (fun(e:Cts xs = [])=>show xs.length=0 by have:=yQ List.length e;rw[zcB]at this;simp at this;omega);obtain⟨R,hR⟩:∃R,S14.okCtrs xs n limit=R:=⟨_,rfl⟩;rw[hR];unfold S14.okCtrs at hR;have HR:=zD hR;clear hR hat;go_enter Tryz.func80,Tryz.ntmps80;go_wp2_with fail;go_loopw [7] (fun i wr=>∃k:Nat,k≤xs.length∧i = .int .i64 (k:Int)∧Below w.heap.size w wr∧Hid ((xs.take k).any (fun c=>decide (S08.check c.1 c.2 limit≠0))=false)) (fun i _=>xs.length-(intOf i).toNat)
 case atStart=>exact⟨0,by omega,rfl,by go_grown,zD (by simp)⟩
 case round=>
  obtain⟨k,hk,rfl,hB,hany⟩:=hrel;by_cases hlt:k<xs.length
  ·have hl4:(k:Int)<(xs.length:Int):=by omega
   have hne:Cts xs≠ []:=fun e=>by have:=Hne.out e;omega
   obtain⟨x,hx,hx0,hx1⟩:=Hat.out k hlt;obtain⟨ba,oa,rfl,hra⟩:=(hrd.step hB) hne;have c1:=hra (k*2) _ hx0;have c2:=hra (k*2+1) _ hx1;rw[←Nat.add_assoc]at c2;have HX:=zD hx;clear hra hx0 hx1 hne hx;go_wp2_with fail;refine(HC.out x _).mono ?_;rintro e w5 ⟨rfl,hb5⟩;have hB5:=zA hB hb5;obtain⟨E,hE⟩:∃E,S08.check x.1 x.2 limit=E:=⟨_,rfl⟩;rw[hE];have HE:=zD hE;clear hE;by_cases h0:E=0
   ·subst h0
    have hnx:Hid ((xs.take (k+1)).any (fun c=>decide (S08.check c.1 c.2 limit≠0))=false):=zD (by
     rw[List.take_add_one,HX.out,List.any_append,hany.out];simp[HE.out])
    go_wp2;go_roundw
    case rel=>exact⟨k+1,by omega,by go_num,hB5,hnx⟩
    case measure=>simp[intOf];omega
   ·have e0:(E==0)=false:=by simp[h0]
    have hf:R=false:=by
     rw[←HR.out];have:xs.any (fun c=>decide (S08.check c.1 c.2 limit≠0))=true:=List.any_eq_true.2 ⟨x,yN HX.out,by rw[HE.out];exact zQ h0⟩;rw[this];simp
    subst hf;go_wp2;go_returns;exact⟨rfl,hB5⟩
  ·obtain rfl:k=xs.length:=by omega
   have hf:(((xs.length:Nat):Int)==(n:Int))=R:=by
    have h:=hany.out;rw[zcP]at h;have e:(((xs.length:Nat):Int)==(n:Int))=decide (xs.length=n):=by
     rw[show(((xs.length:Nat):Int)==(n:Int))=decide (((xs.length:Nat):Int)=(n:Int))from rfl,decide_eq_decide];omega
    rw[←HR.out,h,e,Bool.not_false,Bool.and_true]
   go_wp2;go_returns;exact⟨by first|rfl|exact yZ hf,hB⟩
