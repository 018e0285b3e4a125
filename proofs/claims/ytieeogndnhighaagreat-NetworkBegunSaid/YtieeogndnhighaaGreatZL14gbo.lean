/- A part of the proof of L14g. No condition. -/
import Derived.Test.YtieeogndnhighaaGreatZL14gbk
set_option linter.all false
set_option maxRecDepth 100000
set_option maxHeartbeats 20000000
namespace Go.Proofs.YtieeogndnhighaaGreat
open Go.RowKit
def zhY(N:S14.N)(L:NLay)(w:World)(O:Nat→List Int→Int)(G:Nat→S14.P)(bit:Int):Prop:=
 ∀(k:Nat) (c:S14.C),N.comps[k]? = some c→∀(a:Option Addr) (W:World),Below w.heap.size w W→Rd W a (zaF (S14.outs O k))→
  Calls Tryz.prog (zrP c) #[CV c,VV N L k (.slice a k k),.int .i64 bit] W fun e w'=>∃y,e = .returned (.tuple #[PV (G k) y,.int .i64 0])∧PRob 0 W.heap.size (G k) y w'∧Below W.heap.size W w'
theorem zjX(N N2:S14.N)(L:NLay)(O:Nat→List Int→Int)(G:Nat→S14.P)(bit:Int)(w:World)(hN:NIs N L w)(HR:zeC N L w)(h0:S14.checkNet N=0)(HK:zfM N L w O)(hb:bit=0∨bit=1)(HL:zhY N L w O G bit)
 (HOp1:S14.opens (S14.next N.part bit)→zfY w ⟨N.comps,S14.parts1 G N.parts N.comps.length,N.ctxs,S14.next N.part bit⟩ N2) (HOp0:¬S14.opens (S14.next N.part bit)→N2=⟨N.comps,S14.parts1 G N.parts N.comps.length,N.ctxs,S14.next N.part bit⟩) :
 Calls Tryz.prog 25 #[NV N L,.int .i64 bit] w fun e w'=>∃L',e = .returned (.tuple #[NV N2 L',.int .i64 0])∧(∀W,KepX (fun k=>k<w.heap.size) w' W→NIs N2 L' W)∧Below w.heap.size w w':=by
 obtain⟨hck,hpl,hxl,hp1,hp2,_⟩:=S14.checkNet_zero h0;obtain⟨hl0,hl,hok⟩:=S14.check_zero hck;have hk6:=S14.kinds_of hck;obtain⟨W1,hW1⟩:∃W1,(w.alloc (.cells (zcN N L).toArray 26)).alloc (.cells zN 26)=W1:=⟨_,rfl⟩;have k1:Blk W1 w.heap.size (zcN N L) 26:=by rw[←hW1];exact(Blk.new w _ _).alloc _
 have r1:Blk W1 (w.heap.size+1) [.slice none 0 0,.slice none 0 0,.slice none 0 0,.int .i64 0] 26:=by
  rw[←hW1];have h:=Blk.new (w.alloc (.cells (zcN N L).toArray 26)) [.slice none 0 0,.slice none 0 0,.slice none 0 0,.int .i64 0] 26;rwa[zV]at h
 have B1:Below w.heap.size w W1:=by rw[←hW1];exact((zF _ _).alloc (zE _) _).alloc (by simp) _
 have HC:=zD (zdJ N L O W1 (hN.step B1) (fun k c p y h1 h2 h3 h4 W hW=>HR k c p y h1 h2 h3 h4 W (zA B1 hW)) h0 (fun k c h bef a W' h1=>HK k c h bef a W' (zA B1 h1)));have HCp:=zD fun(W:World) (hW:Below w.heap.size w W)=>znB N L W (hN.step hW) ⟨hl0,hl⟩ hpl hxl;have HBw:=zD fun W=>zaU bit 0 1 W;have hbt:S14.has bit 0 1=true:=by rcases hb with rfl|rfl<;>rfl
 rw[hbt]at HBw;have HO:=zD fun(x:S14.C) W=>(show Calls Tryz.prog 43 #[.agg #[.int .i64 x.kind,.int .i64 x.bits,.int .i64 x.limit,.int .i64 x.rate,.int .i64 x.first,.int .i64 x.second]] W _ from zgH x W);have HN:=zD hN;have HLH:=zD HL;have HP1:=zD HOp1;have HP0:=zD HOp0;have Hk6:=zD hk6;have Hpp:=zD (show 1≤N.part∧N.part≤255 from⟨hp1,hp2⟩);have Hb01:=zD hb;unfold zN at hW1;obtain⟨g,o,hga,_⟩:=hN.rc (fun e=>by have h:=yI List.length e;rw[zaT,List.length_nil]at h;omega);have HRc:=zD hN.rc;rw[hga]at HRc;clear HR h0 hck HK hbt HL HOp1 HOp0 hok hk6 hp1 hp2 hb;unfold NV zcN at HC HCp;unfold zcN at k1 hW1;unfold zhY VV at HLH;unfold NV zcN;obtain⟨nc,hnc⟩:∃n,N.comps.length=n:=⟨_,rfl⟩;obtain⟨np,hnp⟩:∃n,N.parts.length=n:=⟨_,rfl⟩;obtain⟨nx,hnx⟩:∃n,N.ctxs.length=n:=⟨_,rfl⟩;obtain⟨pt,hpt⟩:∃n,N.part=n:=⟨_,rfl⟩;rw[hnc,hnp,hnx,hpt,hga]at HC HCp k1 hW1 HLH;rw[hnp,hnc]at hpl;rw[hnx]at hxl;rw[hnc]at hl0 hl;rw[hpt]at Hpp;rw[hnc,hnp,hnx,hpt,hga];clear hga;have Hnc:=zD hnc;have Hnp:=zD hnp;have Hnx:=zD hnx;have Hpt:=zD hpt;clear hnc hnp hnx hpt hN;subst hpl;subst hxl;have c1:=k1.cell 0;simp only[lgz]at c1;go_enter Tryz.func25,Tryz.ntmps25;go_wp2_with (first
  | (rw[hW1])
  | (refine yE 26 (.tmp 2) (by rfl) (by rfl) w.heap.size (by rfl) [.slice (some ⟨g,o,none⟩) np L.c1,.slice L.a2 np L.c2,.slice L.a3 16 L.c3,.int .i64 pt] 26 k1 _ Tryz.underlying26 rfl info_N ?_))
 refine HC.out.mono ?_;rintro e w2 ⟨a,cap,rfl,hrd,hfar,hcap,hb2⟩;have k2:=k1.step hb2;have r2:=r1.step hb2;have B2:=zA B1 hb2;have Hrd:=zD hrd;have Hfar:=zD hfar;clear k1 r1 hW1 B1 hrd hfar hb2 c1 HC;go_wp2_with fail;refine(HBw.out _).mono ?_;rintro e w3 ⟨rfl,hb3⟩;have k3:=k2.step hb3;have r3:=r2.step hb3;have B3:=zA B2 hb3;have Hrd:=zD (Hrd.out.step hb3);obtain⟨ga,oa,rfl,hga⟩:∃ga oa,a=some ⟨ga,oa,none⟩∧ga<w3.heap.size:=by
  obtain⟨g',o',e,hcs⟩:=Hrd.out.at (i:=0) (by unfold zaF;rw[yJ,S14.outs_length];omega);exact⟨g',o',e,zL (hcs 0 (by unfold zaF;rw[yJ,S14.outs_length];omega))⟩
 clear k2 r2 B2 hb3 HBw;go_wp2_with (first
  | (refine yE 26 (.tmp 2) (by rfl) (by rfl) w.heap.size (by rfl) [.slice (some ⟨g,o,none⟩) np L.c1,.slice L.a2 np L.c2,.slice L.a3 16 L.c3,.int .i64 pt] 26 k3 _ Tryz.underlying26 rfl info_N ?_))
 refine(HCp.out _ B3).mono ?_;rintro e w4 ⟨a1,c1,a2,c2,a3,c3,rfl,own1,own2,own3,hb4⟩;have B4:=zA B3 hb4;have k4:=k3.step hb4;have r4:=r3.step hb4;have Hrd:=zD (Hrd.out.step hb4);obtain⟨D,hD⟩:∃D,w3.heap.size=D:=⟨_,rfl⟩;have hwD:w.heap.size+1<D:=by rw[←hD];exact r3.lt
 rw[hD]at own1 own2 own3 hga;unfold OwnP at own2;rw[Hnp.out]at own2;obtain⟨NB,hNB⟩:∃NB,w4.heap.size=NB:=⟨_,rfl⟩;have hb4s:=hb4.size;clear k3 r3 hb4 HCp B3;have hDN:D≤NB:=by rw[←hD,←hNB];exact hb4s
 obtain⟨W5,hW5⟩:∃W5,w4.alloc (.cells #[.slice none 0 0,.slice none 0 0,.slice none 0 0,.int .i64 0] 26)=W5:=⟨_,rfl⟩;have hb5:Below w4.heap.size w4 W5:=by rw[←hW5];exact(zF _ _).alloc (zE _) _
 have EN:Blk W5 NB [.slice none 0 0,.slice none 0 0,.slice none 0 0,.int .i64 0] 26:=by rw[←hW5,←hNB];exact Blk.new w4 _ _
 obtain⟨gC,rfl,hC1,hC2,hC3,hC4⟩:=zcQ own1 hl0;obtain⟨g2,rfl,hP1,hP2,hP3,hP4⟩:=zcQ own2 hl0;obtain⟨gX,rfl,hX1,hX2,hX3,hX4⟩:=zcQ own3 (by decide);have hneCP:gC≠g2:=zhG own1 own2 (by decide);have hneXP:gX≠g2:=zhG own3 own2 (by decide);rw[hNB]at hC2 hP2 hX2;go_wp2_with (first
  | (rw[hW5,hNB])
  | (rw[hW5])
  | (refine yC 26 (.tmp 8) (.tmp 27) (by rfl) (by rfl) NB (by rfl) [.slice (some ⟨gC,0,none⟩) np c1,.slice (some ⟨g2,0,none⟩) np c2,.slice (some ⟨gX,0,none⟩) 16 c3,.int .i64 pt] (by rfl) _ 26 EN info_N rfl (by simp[Value.oneCell']) ?_;intro wL EL gL sL;have hXN:KepX (fun k=>k=NB) w4 wL:=(KepX.below hb5).trans (KepX.row gL (fun b e=>.inl (zJ e).symm));have kL:=k4.kepX hXN (show¬_=NB by omega);have c0:=kL.cell 0;simp only[lgz]at c0))
 have BL:Below w.heap.size w wL:=hXN.toBelow B4 (fun k e=>by have e:k=NB:=e;omega);have rL:=r4.kepX hXN (show¬_=NB by omega);have HrC:=zD ((Rd.of_owns own1).kepX hXN (fun g o e=>by cases e;show¬_=NB;omega));have HrX:=zD ((Rd.of_owns own3).kepX hXN (fun g o e=>by cases e;show¬_=NB;omega));have own2L:=zbZ own2 hXN (fun g e=>by have e:some g2=some g:=e;cases e;show¬_=NB;omega);have HrdL:=zD (Hrd.out.kepX hXN (fun g o e=>by cases e;show¬_=NB;omega));clear own1 own2 own3 k4 r4 B4 gL sL EN hb5 hXN hW5 Hrd
 have hXl:∀k,(k=w.heap.size+1∨k=NB∨k=g2)→w.heap.size≤k∧k<wL.heap.size:=fun k h=>by
  have h1:=EL.lt;have h2:=rL.lt;rcases h with rfl|rfl|rfl
  ·omega
  ·omega
  ·omega
 have hzL:=BL.size;obtain⟨Z,hZ⟩:∃Z,wL.heap.size=Z:=⟨_,rfl⟩;have HXl:=zD (hZ▸hXl);have hrob0:∀(j:Nat) (p:S14.P) (y:Lay),j<0→(S14.parts1 G N.parts 0)[j]? = some p→L.ys[j]? = some y→PRobX (fun k=>k<w.heap.size∨k=w.heap.size+1∨k=NB∨k=g2) p y wL:=fun j p y h=>absurd h (Nat.not_lt_zero _);have hly0:L.ys.length=np:=by rw[HN.out.ly,Hnp.out]
 clear hXl
 go_loopw [31] (fun i wr=>∃(k:Nat) (ys:List Lay),k≤np∧i = .int .i64 (k:Int)∧ys.length=np∧Hid (wr.ownsRow D 83 16 (.slice (some ⟨g2,0,none⟩) np c2) np (PCs (S14.parts1 G N.parts k) ys))∧
  KepX (fun k=>k=g2) wL wr∧
  Hid (∀(j:Nat) (p:S14.P) (y:Lay),j<k→(S14.parts1 G N.parts k)[j]? = some p→ys[j]? = some y→PRobX (fun k=>k<w.heap.size∨k=w.heap.size+1∨k=NB∨k=g2) p y wr)) (fun i _=>np-(intOf i).toNat)
 case atStart=>exact⟨0,L.ys,by omega,rfl,hly0,zD own2L,KepX.refl _ _,zD hrob0⟩
 case round=>
  clear own2L hrob0 hly0;obtain⟨k,ys,hk,rfl,hys,hown,hKX,hrob⟩:=hrel;have hzr:Z≤wr.heap.size:=by rw[←hZ];exact hKX.size
  have hBr:Below w.heap.size w wr:=hKX.toBelow BL (fun k e=>by have e:k=g2:=e;omega);have kr:=kL.kepX hKX (show¬_=g2 by omega);by_cases hlt:k<np
  ·have hkz:(k:Int)<(np:Int):=by omega
   have hkcz:(k:Int)≤(cap:Int):=by omega
   obtain⟨x,hx⟩:∃x,N.comps[k]? = some x:=⟨_,zG (by have:=Hnc.out;omega)⟩;obtain⟨g1,o1,e1,hcs1⟩:=(HRc.out.step hBr) (fun e=>by have h:=yI List.length e;have:=Hnc.out;rw[zaT,List.length_nil]at h;omega);cases e1;obtain⟨x0,x1,x2,x3,x4,x5⟩:=zrM hcs1 hx;have hkd:=Hk6.out x (zaO hx);obtain⟨W6,hW6⟩:∃W6,wr.alloc (.cells #[.int .i64 x.kind,.int .i64 x.bits,.int .i64 x.limit,.int .i64 x.rate,.int .i64 x.first,.int .i64 x.second] 54)=W6:=⟨_,rfl⟩;obtain⟨Q,hQ⟩:∃Q,wr.heap.size=Q:=⟨_,rfl⟩;have kQ:Blk W6 Q [.int .i64 x.kind,.int .i64 x.bits,.int .i64 x.limit,.int .i64 x.rate,.int .i64 x.first,.int .i64 x.second] 54:=by rw[←hW6,←hQ];exact Blk.new wr _ _
   have hb6:Below wr.heap.size wr W6:=by rw[←hW6];exact(zF _ _).alloc (zE _) _
   have k6:=kr.step hb6;have B6:=zA hBr hb6;have KX6:=hKX.trans (KepX.below hb6);have hz6:Z≤W6.heap.size:=zZ hzr hb6.size;have Hown6:=zD (yU (B:=0) hown.out hb6);have Hrob6:=zD (show∀(j:Nat) (p:S14.P) (y:Lay),j<k→(S14.parts1 G N.parts k)[j]? = some p→ys[j]? = some y→PRobX (fun k=>k<w.heap.size∨k=w.heap.size+1∨k=NB∨k=g2) p y W6 from fun j p y hjk h1 h2=>(hrob.out j p y hjk h1 h2).kep (KepX.below hb6))
   have HX0:=zD (fun(W:World) (hW:Below W6.heap.size W6 W)=>HLH.out k x hx (some ⟨ga,oa,none⟩) W (zA B6 hW) (by
    have h1:=((HrdL.out.kepX hKX (fun g o e=>by cases e;show¬_=g2;omega)).step (zA hb6 hW)).take14 k;have h2:(zaF (S14.outs O np)).take k=zaF (S14.outs O k):=by
     unfold zaF;rw[←List.map_take,S14.outs_take O k np (by omega)]
    rwa[h2]at h1))
   have hCS:Cells W6 [(⟨Q,0,none⟩,.int .i64 x.kind),(⟨Q,1,none⟩,.int .i64 x.bits),(⟨Q,2,none⟩,.int .i64 x.limit),(⟨Q,3,none⟩,.int .i64 x.rate),(⟨Q,4,none⟩,.int .i64 x.first),(⟨Q,5,none⟩,.int .i64 x.second),(⟨w.heap.size,0,none⟩,.slice (some ⟨g,o,none⟩) np L.c1),(⟨w.heap.size,1,none⟩,.slice L.a2 np L.c2),(⟨w.heap.size,2,none⟩,.slice L.a3 16 L.c3),(⟨w.heap.size,3,none⟩,.int .i64 pt)]:=
    ⟨kQ.cell 0,kQ.cell 1,kQ.cell 2,kQ.cell 3,kQ.cell 4,kQ.cell 5,k6.cell 0,k6.cell 1,k6.cell 2,k6.cell 3,yK⟩
   clear hb6 hown hrob hKX hcs1 hx kr hBr;go_wp2_with (first|(rw[hW6,hQ])|(rw[hW6])|fail);clear x0 x1 x2 x3 x4 x5;unfold zrP CV yA at HX0;obtain⟨TT,FF,hof,hX3,hen,hme,hah⟩:∃(TT:TypeId) (FF:FuncId),OfV x = .iface TT (.agg #[.int .i64 x.kind,.int .i64 x.bits,.int .i64 x.limit,.int .i64 x.rate,.int .i64 x.first,.int .i64 x.second])∧(∀W,Below W6.heap.size W6 W→Calls Tryz.prog FF #[.agg #[.int .i64 x.kind,.int .i64 x.bits,.int .i64 x.limit,.int .i64 x.rate,.int .i64 x.first,.int .i64 x.second],.agg #[.slice (some ⟨g,o,none⟩) np L.c1,.slice L.a2 np L.c2,.slice L.a3 16 L.c3,.int .i64 pt,.int .i64 (k:Int),.slice (some ⟨ga,oa,none⟩) k k],.int .i64 bit] W fun e w'=>∃y,e = .returned (.tuple #[PV (G k) y,.int .i64 0])∧PRob 0 W.heap.size (G k) y w'∧Below W.heap.size W w')∧(∀args w,(callFunc FF args).run Tryz.prog w = .ok (.enter FF args) w)∧(∀w,(method 410 TT (.agg #[.int .i64 x.kind,.int .i64 x.bits,.int .i64 x.limit,.int .i64 x.rate,.int .i64 x.first,.int .i64 x.second]) "compactor/network.learn").run Tryz.prog w = .ok (FF,(.agg #[.int .i64 x.kind,.int .i64 x.bits,.int .i64 x.limit,.int .i64 x.rate,.int .i64 x.first,.int .i64 x.second])) w)∧(∀w,(nilAhead 410 TT (.agg #[.int .i64 x.kind,.int .i64 x.bits,.int .i64 x.limit,.int .i64 x.rate,.int .i64 x.first,.int .i64 x.second]) "compactor/network.learn").run Tryz.prog w = .ok (some false) w):=by
    by_cases k0:x.kind=0
    ·refine⟨115,172,?_,?_,enters_of Tryz.func172 (by kernel_rfl) rfl,zjV _,ziZ _⟩
     ·unfold OfV CV yA;simp only[k0];rfl
     ·intro W hW;have:=HX0.out W hW;simp only[k0]at this⊢;exact this
    by_cases k1:x.kind=1
    ·refine⟨116,185,?_,?_,enters_of Tryz.func185 (by kernel_rfl) rfl,znJ _,zlY _⟩
     ·unfold OfV CV yA;simp only[k1];rfl
     ·intro W hW;have:=HX0.out W hW;simp only[k1]at this⊢;exact this
    by_cases k2:x.kind=2
    ·refine⟨117,214,?_,?_,enters_of Tryz.func214 (by kernel_rfl) rfl,zlI _,zkO _⟩
     ·unfold OfV CV yA;simp only[k2];rfl
     ·intro W hW;have:=HX0.out W hW;simp only[k2]at this⊢;exact this
    by_cases k3:x.kind=3
    ·refine⟨118,230,?_,?_,enters_of Tryz.func230 (by kernel_rfl) rfl,zlH _,zkN _⟩
     ·unfold OfV CV yA;simp only[k3];rfl
     ·intro W hW;have:=HX0.out W hW;simp only[k3]at this⊢;exact this
    by_cases k4:x.kind=4
    ·refine⟨119,257,?_,?_,enters_of Tryz.func257 (by kernel_rfl) rfl,zlJ _,zkP _⟩
     ·unfold OfV CV yA;simp only[k4];rfl
     ·intro W hW;have:=HX0.out W hW;simp only[k4]at this⊢;exact this
    by_cases k5:x.kind=5
    ·refine⟨120,265,?_,?_,enters_of Tryz.func265 (by kernel_rfl) rfl,zoZ _,znQ _⟩
     ·unfold OfV CV yA;simp only[k5];rfl
     ·intro W hW;have:=HX0.out W hW;simp only[k5]at this⊢;exact this
    by_cases k6:x.kind=6
    ·refine⟨121,285,?_,?_,enters_of Tryz.func285 (by kernel_rfl) rfl,zlG _,zkM _⟩
     ·unfold OfV CV yA;simp only[k6];rfl
     ·intro W hW;have:=HX0.out W hW;simp only[k6]at this⊢;exact this
    omega
   have HX:=zD hX3;clear hX3 HX0;go_wp2_with fail;refine zaN 19 1 (.read 0 (.read 2 (.read 3 (.read 4 (.read 5 (.read 6 (.read 7 (.read 8 (.read 9 (.two (.one 17 (.one 1 (.read 10 (.read 11 (.read 12 (.one 13 (.read 14 (.read 15 (.read 16 (.one 18 .done)))))))))) (.one 1 (.read 10 (.read 11 (.read 12 (.two (.one 17 (.one 13 (.read 14 (.read 15 (.read 16 (.one 18 .done)))))) (.one 13 (.read 14 (.read 15 (.read 16 (.one 17 (.one 18 .done))))))))))))))))))))) _ _ o0P (fun K=>Below W6.heap.size W6 K∧Cells K [(⟨Q,0,none⟩,.int .i64 x.kind),(⟨Q,1,none⟩,.int .i64 x.bits),(⟨Q,2,none⟩,.int .i64 x.limit),(⟨Q,3,none⟩,.int .i64 x.rate),(⟨Q,4,none⟩,.int .i64 x.first),(⟨Q,5,none⟩,.int .i64 x.second),(⟨w.heap.size,0,none⟩,.slice (some ⟨g,o,none⟩) np L.c1),(⟨w.heap.size,1,none⟩,.slice L.a2 np L.c2),(⟨w.heap.size,2,none⟩,.slice L.a3 16 L.c3),(⟨w.heap.size,3,none⟩,.int .i64 pt)]) (by kernel_rfl) (yH 19 _).symm (by kernel_rfl) (by kernel_rfl) (by kernel_rfl) (by kernel_rfl) (⟨(zF _ _).drew,hCS⟩) (fun Y Q4 F4 hY hF=> ?_);simp only[Plan.map,ltc,ltz,ldc,ldz,zcV,zdP]
   repeat
    apply zO (by rw[hY];rfl)
    ·intro w2 hS2;(try simp only[Keeps,Cells]at hS2);go_simp;with_reducible rfl
    simp only[zsZ]
   have fin:∀(I:Value) (y:Lay) (VS:List Value) (bP:Nat) (w9 wS:World),Hid (yN (G k) y=VS)→Below W6.heap.size W6 w9→PRobX (fun b=>b<w.heap.size∨b=w.heap.size+1∨b=NB∨b=g2∨b=bP) (G k) y w9→W6.heap.size≤bP→Blk wS bP VS 83→w9.grownBy wS (some bP)→
    F4 {tmps:=#[Value.agg #[Value.slice (some {block:=g,off:=o}) np L.c1,Value.slice L.a2 np L.c2,Value.slice L.a3 16 L.c3,Value.int IntKind.i64 pt],Value.int IntKind.i64 bit,Value.pointer (some {block:=w.heap.size,off:=0}),undef,Value.pointer (some {block:=w.heap.size+1,off:=0}),u5,Value.slice (some {block:=ga,off:=oa}) np cap,Value.int IntKind.i64 0,Value.pointer (some {block:=NB,off:=0}),Value.int IntKind.i64 (k:Int),Value.pointer (some {block:=Q,off:=0}),Value.pointer (some {block:=bP,off:=0}),u12,Value.tuple #[Value.slice (some {block:=ga,off:=oa}) np cap,Value.int IntKind.i64 0],Value.agg #[Value.slice (some {block:=g,off:=o}) np L.c1,Value.slice L.a2 np L.c2,Value.slice L.a3 16 L.c3,Value.int IntKind.i64 pt],Value.tuple #[Value.slice (some {block:=ga,off:=oa}) np cap,Value.int IntKind.i64 0],Value.slice (some {block:=ga,off:=oa}) np cap,Value.int IntKind.i64 0,Value.int IntKind.i64 0,Value.bool false,undef,undef,Value.int IntKind.i64 bit,Value.bool true,Value.bool false,undef,Value.agg #[Value.slice (some {block:=g,off:=o}) np L.c1,Value.slice L.a2 np L.c2,Value.slice L.a3 16 L.c3,Value.int IntKind.i64 pt],Value.agg #[Value.slice (some {block:=gC,off:=0}) np c1,Value.slice (some {block:=g2,off:=0}) np c2,Value.slice (some {block:=gX,off:=0}) 16 c3,Value.int IntKind.i64 pt],Value.pointer (some {block:=w.heap.size,off:=0}),Value.slice (some {block:=g,off:=o}) np L.c1,Value.int IntKind.i64 (np:Int),Value.int IntKind.i64 (k:Int),Value.bool true,Value.int IntKind.i64 (k:Int),Value.pointer (some {block:=g,off:=o+k*6}),Value.agg #[Value.int IntKind.i64 x.kind,Value.int IntKind.i64 x.bits,Value.int IntKind.i64 x.limit,Value.int IntKind.i64 x.rate,Value.int IntKind.i64 x.first,Value.int IntKind.i64 x.second],Value.tuple #[.agg VS.toArray,Value.int IntKind.i64 0],Value.agg #[Value.int IntKind.i64 x.kind,Value.int IntKind.i64 x.bits,Value.int IntKind.i64 x.limit,Value.int IntKind.i64 x.rate,Value.int IntKind.i64 x.first,Value.int IntKind.i64 x.second],I,Value.agg #[Value.slice (some {block:=g,off:=o}) np L.c1,Value.slice L.a2 np L.c2,Value.slice L.a3 16 L.c3,Value.int IntKind.i64 pt],Value.int IntKind.i64 (k:Int),Value.slice (some {block:=ga,off:=oa}) np cap,Value.int IntKind.i64 (k:Int),Value.int IntKind.i64 (k:Int),Value.slice (some {block:=ga,off:=oa}) k k,Value.agg #[Value.slice (some {block:=g,off:=o}) np L.c1,Value.slice L.a2 np L.c2,Value.slice L.a3 16 L.c3,Value.int IntKind.i64 pt,Value.int IntKind.i64 (k:Int),Value.slice (some {block:=ga,off:=oa}) k k],Value.int IntKind.i64 bit,Value.func (Fn.method "compactor/network.learn") #[I] #[],Value.func (Fn.method "compactor/network.learn") #[I] #[],I,Value.tuple #[.agg VS.toArray,Value.int IntKind.i64 0],.agg VS.toArray,Value.int IntKind.i64 0,u53,u54,u55,u56,u57,u58,u59,u60,u61,u62,undef,undef,undef,undef,undef,undef,undef,undef,undef,undef,undef,undef,undef,undef,undef,undef,undef,undef,undef,undef,undef,undef],defers:=[]} wS:=by
    intro I y VS bP w9 wS HVS hb9 hrob9 zP1 ES gS;refine hF.out _ _ (fun K hK=> ?_);have hV1:∀v∈VS,v.oneCell'=true:=HVS.out▸zaJ (G k) y;have hVl:VS.length=16:=HVS.out▸rfl;have HV1:=zD hV1;have HVl:=zD hVl;clear hF hY hV1 hVl HX hen hme hah;go_wp2_with fail;refine OnlyK.mk (hK.out _ _ ?_);have hneb:g2≠bP:=by have:=(HXl.out g2 (.inr (.inr rfl))).2;omega
    have hneN:NB≠bP:=by have:=(HXl.out NB (.inr (.inl rfl))).2;omega
    have KX9:KepX (fun k=>k=g2) wL wS:=(KX6.trans (KepX.below hb9)).rowB gS (fun b e=>.inr (by have e:bP=b:=zJ e;rw[hZ];omega));have nS:Blk wS NB [.slice (some ⟨gC,0,none⟩) np c1,.slice (some ⟨g2,0,none⟩) np c2,.slice (some ⟨gX,0,none⟩) 16 c3,.int .i64 pt] 26:=EL.kepX KX9 (show¬_=g2 by omega);have cN:=nS.cell 1;simp only[ztB]at cN;have HownS:=zD (zbZ (X:=fun k=>k=bP) (yU (B:=0) Hown6.out hb9) (KepX.row gS (fun b e=>.inl (zJ e).symm)) (fun g e=>by have e:some g2=some g:=e;cases e;exact hneb));have hth:=zgE (o:=k*16) (k:=16) HownS.out (by omega);have hth2:wS.there g2 (k*16) VS.toArray.size:=by rw[List.size_toArray,HVl.out];exact hth
    have HrobS:=zD (show∀(j:Nat) (p:S14.P) (y':Lay),j<k+1→(S14.parts1 G N.parts (k+1))[j]? = some p→(ys.set k y)[j]? = some y'→PRobX (fun k=>k<w.heap.size∨k=w.heap.size+1∨k=NB∨k=g2) p y' wS from fun j p y' hjk h1 h2=>by
     rw[S14.parts1]at h1;rw[List.getElem?_set]at h1 h2;have hpn:(S14.parts1 G N.parts k).length=np:=by rw[S14.parts1_length,Hnp.out]
     by_cases hj:k=j
     ·subst hj;rw[zQ rfl,zQ (by omega)]at h1 h2;cases h1;cases h2
      exact(hrob9.kep (KepX.row gS (fun b e=>.inl (.inr (.inr (.inr (.inr (zJ e).symm))))))).change (fun b _ hb=>by
       rcases hb with h|h|h|h
       ·exact .inl h
       ·exact .inr (.inl h)
       ·exact .inr (.inr (.inl h))
       ·exact .inr (.inr (.inr (.inl h))))
     ·rw[zI hj]at h1 h2;exact(Hrob6.out j p y' (by omega) h1 h2).kep ((KepX.below hb9).rowB gS (fun b e=>.inr (by have e:bP=b:=zJ e;omega))))
    clear hth gS hb9 hrob9 Hown6 Hrob6 hCS k6 kQ;go_wp2_with (first
     | (refine yE 83 (.tmp 11) (by rfl) (by rfl) bP (by rfl) VS 83 ES _ Tryz.underlying83 rfl (info_P.trans (yI some HVl.out.symm)) ?_)
     | (refine wpList_store_mid (by rfl) 83 (.tmp 61) (.tmp 60) (by rfl) g2 (k*16) VS.toArray (by rfl) (by rfl) hth2 (info_P.trans (yI some (HVl.out.symm.trans List.size_toArray.symm))) (all_oneCell_toArray HV1.out) ?_))
    have hown':=zoI (o:=k*16) (vs:=VS) HownS.out (by rw[HVl.out];omega);have hgs:=yZ g2 VS (k*16) wS;have hE:VS.toArray.toList=VS:=List.toList_toArray;rw[←HVS.out,←PCs_put _ _ _ _ _ (by rw[hys,S14.parts1_length,Hnp.out]) (by rw[S14.parts1_length,Hnp.out];exact hlt),HVS.out]at hown';have Hown':Hid ((wS.setCells g2 (k*16) VS).ownsRow D 83 16 (.slice (some ⟨g2,0,none⟩) np c2) np (PCs (S14.parts1 G N.parts (k+1)) (ys.set k y))):=zD hown';have KX':=KX9.trans (KepX.row hgs (fun b e=>.inl (zJ e).symm));have Hrob':=zD (show∀(j:Nat) (p:S14.P) (y':Lay),j<k+1→(S14.parts1 G N.parts (k+1))[j]? = some p→(ys.set k y)[j]? = some y'→PRobX (fun k=>k<w.heap.size∨k=w.heap.size+1∨k=NB∨k=g2) p y' (wS.setCells g2 (k*16) VS)from fun j p y' hjk h1 h2=>(HrobS.out j p y' hjk h1 h2).kep (KepX.row hgs (fun b e=>.inl (.inr (.inr (.inr (zJ e).symm))))));have hyl:(ys.set k y).length=np:=by rw[zaH,hys]
    clear hown' hgs HownS HrobS KX9 hth2 cN nS ES;go_roundw
    case rel=>exact⟨k+1,ys.set k y,by omega,by simp,hyl,hE▸Hown',hE▸KX',hE▸Hrob'⟩
    case measure=>simp[intOf];omega
   have hbv0:Below W6.heap.size W6 W6.drew:=(zF _ _).drew;obtain⟨v0,hv0⟩:∃v,W6.drew=v:=⟨_,rfl⟩;rw[hv0]at hbv0⊢;refine yX ?_ ?_
   ·skip
    have hbv10:Below v0.heap.size v0 (v0.alloc (.cells #[.slice none 0 0,.int .i64 0,.slice none 0 0,.int .i64 0,.int .i64 0,.int .i64 0,.slice none 0 0,.slice none 0 0,.int .i64 0,.int .i64 0,.int .i64 0,.int .i64 0,.slice none 0 0,.int .i64 0,.slice none 0 0,.slice none 0 0] 83)):=(zF _ _).alloc (zE _) _;have hbv1:=zA hbv0 hbv10;refine yF (by rw[hY];rfl) (by go_simp;first|with_reducible exact⟨rfl,rfl⟩|with_reducible rfl) ((show Below W6.heap.size W6 (v0.alloc (.cells #[.slice none 0 0,.int .i64 0,.slice none 0 0,.int .i64 0,.int .i64 0,.int .i64 0,.slice none 0 0,.slice none 0 0,.int .i64 0,.int .i64 0,.int .i64 0,.int .i64 0,.slice none 0 0,.int .i64 0,.slice none 0 0,.slice none 0 0] 83))∧Cells (v0.alloc (.cells #[.slice none 0 0,.int .i64 0,.slice none 0 0,.int .i64 0,.int .i64 0,.int .i64 0,.slice none 0 0,.slice none 0 0,.int .i64 0,.int .i64 0,.int .i64 0,.int .i64 0,.slice none 0 0,.int .i64 0,.slice none 0 0,.slice none 0 0] 83)) [(⟨Q,0,none⟩,.int .i64 x.kind),(⟨Q,1,none⟩,.int .i64 x.bits),(⟨Q,2,none⟩,.int .i64 x.limit),(⟨Q,3,none⟩,.int .i64 x.rate),(⟨Q,4,none⟩,.int .i64 x.first),(⟨Q,5,none⟩,.int .i64 x.second),(⟨w.heap.size,0,none⟩,.slice (some ⟨g,o,none⟩) np L.c1),(⟨w.heap.size,1,none⟩,.slice L.a2 np L.c2),(⟨w.heap.size,2,none⟩,.slice L.a3 16 L.c3),(⟨w.heap.size,3,none⟩,.int .i64 pt)]from⟨hbv1,Cells.step hbv1 hCS⟩)) ?_;simp only[zsZ];have kP:=Blk.new v0 [.slice none 0 0,.int .i64 0,.slice none 0 0,.int .i64 0,.int .i64 0,.int .i64 0,.slice none 0 0,.slice none 0 0,.int .i64 0,.int .i64 0,.int .i64 0,.int .i64 0,.slice none 0 0,.int .i64 0,.slice none 0 0,.slice none 0 0] 83;have zP1:W6.heap.size≤v0.heap.size:=hbv0.size;obtain⟨bP,hbP⟩:∃bP,v0.heap.size=bP:=⟨_,rfl⟩;obtain⟨v1,hv1⟩:∃v,v0.alloc (.cells #[.slice none 0 0,.int .i64 0,.slice none 0 0,.int .i64 0,.int .i64 0,.int .i64 0,.slice none 0 0,.slice none 0 0,.int .i64 0,.int .i64 0,.int .i64 0,.int .i64 0,.slice none 0 0,.int .i64 0,.slice none 0 0,.slice none 0 0] 83)=v:=⟨_,rfl⟩;have hwP:bP<v1.heap.size:=by rw[←hv1,←hbP];simp
    rw[hv1]at hbv1 hbv10 kP⊢;rw[hbP]at kP zP1 hbv10⊢;apply zY (by rw[hY];rfl)
    ·go_simp;with_reducible exact⟨rfl,rfl⟩
    refine(HO.out x _).mono ?_;rintro e v2 ⟨rfl,hbv20⟩;have hbv2:=zA hbv1 hbv20;refine⟨_,rfl,⟨hbv2,Cells.step hbv2 hCS⟩,?_⟩;simp only[zsZ];rw[hof];have kP:=kP.step hbv20;have hwP:=zaY hwP hbv20.size
    repeat
     apply zO (by rw[hY];rfl)
     ·intro w2 hS2;(try simp only[Keeps,Cells]at hS2);go_simp;with_reducible rfl
     simp only[zsZ]
    apply zY (by rw[hY];rfl)
    ·go_simp;first|with_reducible exact⟨rfl,rfl⟩|with_reducible rfl
    refine(HX.out v2 hbv2).mono ?_;rintro e v3 ⟨y,rfl,hPR,hbv30⟩;have hbv3:=zA hbv2 hbv30;have zW:W6.heap.size≤v2.heap.size:=hbv2.size;refine⟨_,rfl,⟨hbv3,Cells.step hbv3 hCS⟩,?_⟩;simp only[zsZ];have kP:=kP.step hbv30
    repeat
     apply zO (by rw[hY];rfl)
     ·intro w2 hS2;(try simp only[Keeps,Cells]at hS2);go_simp;with_reducible rfl
     simp only[zsZ]
    refine yQ 83 (.tmp 11) (.tmp 51) (by rfl) (by rw[hY];rfl) bP (by rfl) (yN (G k) y) (by rfl) _ 83 kP info_P rfl (zaJ _ _) ?_;intro wS ES gS sS;refine⟨(fun hb=>⟨hb,Cells.step hb hCS⟩) (hbv3.trans (yD gS zP1 hbv3.size)),?_⟩;simp only[zsZ];refine yP (fin _ y _ bP _ wS (zD rfl) hbv3 (hPR.toX (fun b _ hb=> ?_)) zP1 ES gS);have hb:b<w.heap.size∨b=w.heap.size+1∨b=NB∨b=g2∨b=bP:=hb;rcases hb with h|h|h|h|h
    ·have:=HXl.out (w.heap.size+1) (.inl rfl);omega
    ·have:=HXl.out b (.inl h);omega
    ·have:=HXl.out b (.inr (.inl h));omega
    ·have:=HXl.out b (.inr (.inr h));omega
    ·omega
   ·skip
    apply zY (by rw[hY];rfl)
    ·go_simp;with_reducible exact⟨rfl,rfl⟩
    refine(HO.out x _).mono ?_;rintro e v1 ⟨rfl,hbv10⟩;have hbv1:=zA hbv0 hbv10;refine⟨_,rfl,⟨hbv1,Cells.step hbv1 hCS⟩,?_⟩;simp only[zsZ];rw[hof]
    repeat
     apply zO (by rw[hY];rfl)
     ·intro w2 hS2;(try simp only[Keeps,Cells]at hS2);go_simp;with_reducible rfl
     simp only[zsZ]
    refine yX ?_ ?_
    ·skip
     have hbv20:Below v1.heap.size v1 (v1.alloc (.cells #[.slice none 0 0,.int .i64 0,.slice none 0 0,.int .i64 0,.int .i64 0,.int .i64 0,.slice none 0 0,.slice none 0 0,.int .i64 0,.int .i64 0,.int .i64 0,.int .i64 0,.slice none 0 0,.int .i64 0,.slice none 0 0,.slice none 0 0] 83)):=(zF _ _).alloc (zE _) _;have hbv2:=zA hbv1 hbv20;refine yF (by rw[hY];rfl) (by go_simp;first|with_reducible exact⟨rfl,rfl⟩|with_reducible rfl) ((show Below W6.heap.size W6 (v1.alloc (.cells #[.slice none 0 0,.int .i64 0,.slice none 0 0,.int .i64 0,.int .i64 0,.int .i64 0,.slice none 0 0,.slice none 0 0,.int .i64 0,.int .i64 0,.int .i64 0,.int .i64 0,.slice none 0 0,.int .i64 0,.slice none 0 0,.slice none 0 0] 83))∧Cells (v1.alloc (.cells #[.slice none 0 0,.int .i64 0,.slice none 0 0,.int .i64 0,.int .i64 0,.int .i64 0,.slice none 0 0,.slice none 0 0,.int .i64 0,.int .i64 0,.int .i64 0,.int .i64 0,.slice none 0 0,.int .i64 0,.slice none 0 0,.slice none 0 0] 83)) [(⟨Q,0,none⟩,.int .i64 x.kind),(⟨Q,1,none⟩,.int .i64 x.bits),(⟨Q,2,none⟩,.int .i64 x.limit),(⟨Q,3,none⟩,.int .i64 x.rate),(⟨Q,4,none⟩,.int .i64 x.first),(⟨Q,5,none⟩,.int .i64 x.second),(⟨w.heap.size,0,none⟩,.slice (some ⟨g,o,none⟩) np L.c1),(⟨w.heap.size,1,none⟩,.slice L.a2 np L.c2),(⟨w.heap.size,2,none⟩,.slice L.a3 16 L.c3),(⟨w.heap.size,3,none⟩,.int .i64 pt)]from⟨hbv2,Cells.step hbv2 hCS⟩)) ?_;simp only[zsZ];have kP:=Blk.new v1 [.slice none 0 0,.int .i64 0,.slice none 0 0,.int .i64 0,.int .i64 0,.int .i64 0,.slice none 0 0,.slice none 0 0,.int .i64 0,.int .i64 0,.int .i64 0,.int .i64 0,.slice none 0 0,.int .i64 0,.slice none 0 0,.slice none 0 0] 83;have zP1:W6.heap.size≤v1.heap.size:=hbv1.size;obtain⟨bP,hbP⟩:∃bP,v1.heap.size=bP:=⟨_,rfl⟩;obtain⟨v2,hv2⟩:∃v,v1.alloc (.cells #[.slice none 0 0,.int .i64 0,.slice none 0 0,.int .i64 0,.int .i64 0,.int .i64 0,.slice none 0 0,.slice none 0 0,.int .i64 0,.int .i64 0,.int .i64 0,.int .i64 0,.slice none 0 0,.int .i64 0,.slice none 0 0,.slice none 0 0] 83)=v:=⟨_,rfl⟩;have hwP:bP<v2.heap.size:=by rw[←hv2,←hbP];simp
     rw[hv2]at hbv2 hbv20 kP⊢;rw[hbP]at kP zP1 hbv20⊢;apply zY (by rw[hY];rfl)
     ·go_simp;first|with_reducible exact⟨rfl,rfl⟩|with_reducible rfl
     refine(HX.out v2 hbv2).mono ?_;rintro e v3 ⟨y,rfl,hPR,hbv30⟩;have hbv3:=zA hbv2 hbv30;have zW:W6.heap.size≤v2.heap.size:=hbv2.size;refine⟨_,rfl,⟨hbv3,Cells.step hbv3 hCS⟩,?_⟩;simp only[zsZ];have kP:=kP.step hbv30
     repeat
      apply zO (by rw[hY];rfl)
      ·intro w2 hS2;(try simp only[Keeps,Cells]at hS2);go_simp;with_reducible rfl
      simp only[zsZ]
     refine yQ 83 (.tmp 11) (.tmp 51) (by rfl) (by rw[hY];rfl) bP (by rfl) (yN (G k) y) (by rfl) _ 83 kP info_P rfl (zaJ _ _) ?_;intro wS ES gS sS;refine⟨(fun hb=>⟨hb,Cells.step hb hCS⟩) (hbv3.trans (yD gS zP1 hbv3.size)),?_⟩;simp only[zsZ];refine yP (fin _ y _ bP _ wS (zD rfl) hbv3 (hPR.toX (fun b _ hb=> ?_)) zP1 ES gS);have hb:b<w.heap.size∨b=w.heap.size+1∨b=NB∨b=g2∨b=bP:=hb;rcases hb with h|h|h|h|h
     ·have:=HXl.out (w.heap.size+1) (.inl rfl);omega
     ·have:=HXl.out b (.inl h);omega
     ·have:=HXl.out b (.inr (.inl h));omega
     ·have:=HXl.out b (.inr (.inr h));omega
     ·omega
    ·skip
     apply zY (by rw[hY];rfl)
     ·go_simp;first|with_reducible exact⟨rfl,rfl⟩|with_reducible rfl
     refine(HX.out v1 hbv1).mono ?_;rintro e v2 ⟨y,rfl,hPR,hbv20⟩;have hbv2:=zA hbv1 hbv20;have zW:W6.heap.size≤v1.heap.size:=hbv1.size;refine⟨_,rfl,⟨hbv2,Cells.step hbv2 hCS⟩,?_⟩;simp only[zsZ]
     repeat
      apply zO (by rw[hY];rfl)
      ·intro w2 hS2;(try simp only[Keeps,Cells]at hS2);go_simp;with_reducible rfl
      simp only[zsZ]
     have hbv30:Below v2.heap.size v2 (v2.alloc (.cells #[.slice none 0 0,.int .i64 0,.slice none 0 0,.int .i64 0,.int .i64 0,.int .i64 0,.slice none 0 0,.slice none 0 0,.int .i64 0,.int .i64 0,.int .i64 0,.int .i64 0,.slice none 0 0,.int .i64 0,.slice none 0 0,.slice none 0 0] 83)):=(zF _ _).alloc (zE _) _;have hbv3:=zA hbv2 hbv30;refine yF (by rw[hY];rfl) (by go_simp;first|with_reducible exact⟨rfl,rfl⟩|with_reducible rfl) ((show Below W6.heap.size W6 (v2.alloc (.cells #[.slice none 0 0,.int .i64 0,.slice none 0 0,.int .i64 0,.int .i64 0,.int .i64 0,.slice none 0 0,.slice none 0 0,.int .i64 0,.int .i64 0,.int .i64 0,.int .i64 0,.slice none 0 0,.int .i64 0,.slice none 0 0,.slice none 0 0] 83))∧Cells (v2.alloc (.cells #[.slice none 0 0,.int .i64 0,.slice none 0 0,.int .i64 0,.int .i64 0,.int .i64 0,.slice none 0 0,.slice none 0 0,.int .i64 0,.int .i64 0,.int .i64 0,.int .i64 0,.slice none 0 0,.int .i64 0,.slice none 0 0,.slice none 0 0] 83)) [(⟨Q,0,none⟩,.int .i64 x.kind),(⟨Q,1,none⟩,.int .i64 x.bits),(⟨Q,2,none⟩,.int .i64 x.limit),(⟨Q,3,none⟩,.int .i64 x.rate),(⟨Q,4,none⟩,.int .i64 x.first),(⟨Q,5,none⟩,.int .i64 x.second),(⟨w.heap.size,0,none⟩,.slice (some ⟨g,o,none⟩) np L.c1),(⟨w.heap.size,1,none⟩,.slice L.a2 np L.c2),(⟨w.heap.size,2,none⟩,.slice L.a3 16 L.c3),(⟨w.heap.size,3,none⟩,.int .i64 pt)]from⟨hbv3,Cells.step hbv3 hCS⟩)) ?_;simp only[zsZ];have kP:=Blk.new v2 [.slice none 0 0,.int .i64 0,.slice none 0 0,.int .i64 0,.int .i64 0,.int .i64 0,.slice none 0 0,.slice none 0 0,.int .i64 0,.int .i64 0,.int .i64 0,.int .i64 0,.slice none 0 0,.int .i64 0,.slice none 0 0,.slice none 0 0] 83;have zP1:W6.heap.size≤v2.heap.size:=hbv2.size;obtain⟨bP,hbP⟩:∃bP,v2.heap.size=bP:=⟨_,rfl⟩;obtain⟨v3,hv3⟩:∃v,v2.alloc (.cells #[.slice none 0 0,.int .i64 0,.slice none 0 0,.int .i64 0,.int .i64 0,.int .i64 0,.slice none 0 0,.slice none 0 0,.int .i64 0,.int .i64 0,.int .i64 0,.int .i64 0,.slice none 0 0,.int .i64 0,.slice none 0 0,.slice none 0 0] 83)=v:=⟨_,rfl⟩;have hwP:bP<v3.heap.size:=by rw[←hv3,←hbP];simp
     rw[hv3]at hbv3 hbv30 kP⊢;rw[hbP]at kP zP1 hbv30⊢;refine yQ 83 (.tmp 11) (.tmp 51) (by rfl) (by rw[hY];rfl) bP (by rfl) (yN (G k) y) (by rfl) _ 83 kP info_P rfl (zaJ _ _) ?_;intro wS ES gS sS;refine⟨(fun hb=>⟨hb,Cells.step hb hCS⟩) (hbv3.trans (yD gS zP1 hbv3.size)),?_⟩;simp only[zsZ];refine yP (fin _ y _ bP _ wS (zD rfl) hbv3 ((hPR.toX (fun b hb0 hb=> ?_)).kep (KepX.below (hbP.symm▸hbv30))) zP1 ES gS);have hb:b<w.heap.size∨b=w.heap.size+1∨b=NB∨b=g2∨b=bP:=hb;rcases hb with h|h|h|h|h
     ·have:=HXl.out (w.heap.size+1) (.inl rfl);omega
     ·have:=HXl.out b (.inl h);omega
     ·have:=HXl.out b (.inr (.inl h));omega
     ·have:=HXl.out b (.inr (.inr h));omega
     ·omega
  ·obtain rfl:k=np:=by omega
   have nr:Blk wr NB [.slice (some ⟨gC,0,none⟩) k c1,.slice (some ⟨g2,0,none⟩) k c2,.slice (some ⟨gX,0,none⟩) 16 c3,.int .i64 pt] 26:=EL.kepX hKX (show¬_=g2 by omega);have rr:=rL.kepX hKX (show¬_=g2 by omega);have hlm:(S14.parts1 G N.parts k).length=k:=by rw[S14.parts1_length,Hnp.out]
   have hzr2:∀b,(b=w.heap.size+1∨b=NB)→b<wr.heap.size:=fun b hb=>by
    have h1:=HXl.out b (by rcases hb with h|h;exact .inl h;exact .inr (.inl h));omega
   have hNI:∀(V:Int) W2,KepX (fun b=>b<w.heap.size∨b=w.heap.size+1∨b=NB) wr W2→NIs ⟨N.comps,S14.parts1 G N.parts k,N.ctxs,V⟩ ⟨some ⟨gC,0,none⟩,c1,some ⟨g2,0,none⟩,c2,some ⟨gX,0,none⟩,c3,ys⟩ W2:=fun V W2 h2=>
    {rc:=(HrC.out.kepX hKX (fun g o e=>by cases e;exact hneCP)).kepX h2 (fun g o e=>by cases e;show¬(_<_∨_=_∨_=_);omega)
     rp:=(Rd.of_owns hown.out).kepX h2 (fun g o e=>by cases e;show¬(_<_∨_=_∨_=_);omega)
     rx:=(HrX.out.kepX hKX (fun g o e=>by cases e;exact hneXP)).kepX h2 (fun g o e=>by cases e;show¬(_<_∨_=_∨_=_);omega)
     ly:=by rw[hys];exact hlm.symm
     ps:=fun j p y h1 h3=>(((hrob.out j p y (by have h4:j<ys.length:=(List.getElem?_eq_some_iff.1 h3).1;omega) h1 h3).change (fun b _ hb=>by
      rcases hb with h|h|h
      ·exact .inl h
      ·exact .inr (.inl h)
      ·exact .inr (.inr (.inl h)))).kep h2).is
     xs:=HN.out.xs
     l1:=⟨by show N.comps.length≤_;rw[Hnc.out];exact hC3,hC4⟩
     l2:=⟨by show(S14.parts1 G N.parts k).length≤_;rw[hlm];exact hP3,hP4⟩
     l3:=⟨by show N.ctxs.length≤_;rw[Hnx.out];exact hX3,hX4⟩}
   have HNI:=zD hNI
   have HT:=zD (show∀(V:Int) (wB:World),S14.next pt bit=V→KepX (fun b=>b=w.heap.size+1∨b=NB) wr wB→S14.opens V→
    Calls Tryz.prog 44 #[.agg #[.slice (some ⟨gC,0,none⟩) k c1,.slice (some ⟨g2,0,none⟩) k c2,.slice (some ⟨gX,0,none⟩) 16 c3,.int .i64 (V)]] wB fun e w'=>∃L',e = .returned (.agg #[.slice L'.a1 N2.comps.length L'.c1,.slice L'.a2 N2.parts.length L'.c2,.slice L'.a3 N2.ctxs.length L'.c3,.int .i64 N2.part])∧
     (∀W2,KepX (fun b=>b<w.heap.size∨b=w.heap.size+1∨b=NB) w' W2→NIs N2 L' W2)∧KepX (fun b=>(Value.slice (some ⟨g2,0,none⟩) k c2).ownBlock=some b) wB w' from fun V wB hV hkB hop=>by
    have h1:=HP1.out (by rw[Hpt.out,hV];exact hop) ⟨some ⟨gC,0,none⟩,c1,some ⟨g2,0,none⟩,c2,some ⟨gX,0,none⟩,c3,ys⟩ wB (fun b=>b<w.heap.size∨b=w.heap.size+1∨b=NB)
     (hkB.toBelow hBr (fun b e=>by have e:b=w.heap.size+1∨b=NB:=e;omega)) (fun b e=>zaY (e.elim (fun h=>by have h3:=hzr2 (w.heap.size+1) (.inl rfl);omega) (hzr2 b)) hkB.size)
     (by
       rw[Hnc.out,Hpt.out,hV];exact fun W2 h2=>HNI.out V W2 ((hkB.mono (fun b _ h=>.inr h)).trans h2))
     (by
       rw[Hnc.out];show wB.ownsRow w.heap.size 83 16 (.slice (some ⟨g2,0,none⟩) (S14.parts1 G N.parts k).length c2) (S14.parts1 G N.parts k).length (PCs (S14.parts1 G N.parts k) ys);rw[hlm];exact zcW (zbZ hown.out hkB (fun g e=>by have e:some g2=some g:=e;cases e;show¬(_=_∨_=_);omega)) (by omega))
     (by
       rw[Hnc.out];intro j p y h1 h3;have hjk:j<k:=by have h4:j<ys.length:=(List.getElem?_eq_some_iff.1 h3).1;omega
       refine((hrob.out j p y hjk h1 h3).change (fun b _ hb=> ?_)).kep (hkB.mono (fun b _ hb=>.inl (.inr hb)));rcases hb with(h|h|h)|h
       ·exact .inl h
       ·exact .inr (.inl h)
       ·exact .inr (.inr (.inl h))
       ·have h:(Value.slice (some ⟨g2,0,none⟩) (S14.parts1 G N.parts k).length c2).ownBlock=some b:=h;exact .inr (.inr (.inr (zJ h).symm)))
     (fun b hb=>by
       have hb:some g2=some b:=hb;have:=zJ hb;show¬(_<_∨_=_∨_=_);omega)
     (fun W2 h2=>by
       have h2:KepX (fun b=>(b<w.heap.size∨b=w.heap.size+1∨b=NB)∨some g2=some b) wB W2:=h2
       refine⟨((HrC.out.kepX hKX (fun g o e=>by cases e;exact hneCP)).kepX hkB (fun g o e=>by cases e;show¬(_=_∨_=_);omega)).kepX h2 (fun g o e=>by cases e;exact fun h=>h.elim (fun h=>by omega) (fun h=>hneCP (zJ h).symm)),
        ((HrX.out.kepX hKX (fun g o e=>by cases e;exact hneXP)).kepX hkB (fun g o e=>by cases e;show¬(_=_∨_=_);omega)).kepX h2 (fun g o e=>by cases e;exact fun h=>h.elim (fun h=>by omega) (fun h=>hneXP (zJ h).symm))⟩)
    unfold NV zcN at h1;rw[Hnc.out,Hpt.out,hV]at h1;simp only[hlm,Hnc.out,Hnx.out]at h1;exact h1)
   clear hNI hown hrob hKX;have hp:=Hpp.out;have hb01:0≤bit∧bit≤1:=by rcases Hb01.out with h|h<;>omega
   obtain⟨hp1,hp2⟩:=hp;obtain⟨hb0,hb1⟩:=hb01;have c03:=kr.cell 3;have f3:=nr.cell 3;have f3f:=nr.free 3;have nA:=nr.set 3 (.int .i64 (2*pt+bit));have rA:=rr.other NB 3 (.int .i64 (2*pt+bit)) (by omega);have hkA:KepX (fun b=>b=w.heap.size+1∨b=NB) wr (wr.setCell ⟨NB,3,none⟩ (.int .i64 (2*pt+bit))):=KepX.row (zbC wr NB 3 (.int .i64 (2*pt+bit))) (fun b e=>.inl (.inr (zJ e).symm));have a3:=nA.cell 3;have a3f:=nA.free 3;simp only[sC0,sCs,lgz,lgs]at c03 f3 nA a3;by_cases hgt:255<2*pt+bit
   ·have hnx:S14.next pt bit=1:=by unfold S14.next;rw[zQ (by omega)]
    have hop:S14.opens 1:=.inl rfl;have nB:=nA.set 3 (.int .i64 1);have rB:=rA.other NB 3 (.int .i64 1) (by omega);have hkB:=hkA.trans (KepX.row (X:=fun b=>b=w.heap.size+1∨b=NB) (zbC (wr.setCell ⟨NB,3,none⟩ (.int .i64 (2*pt+bit))) NB 3 (.int .i64 1)) (fun b e=>.inl (.inr (zJ e).symm)));have b3:=nB.cell 3;simp only[sC0,sCs,lgz,lgs]at nB b3;clear nr rr kr nA rA hkA;have HTo:=HT.out (1) _ hnx hkB hop;go_wp2_with (first
     | (refine yE 26 (.tmp 8) (by rfl) (by rfl) NB (by rfl) [.slice (some ⟨gC,0,none⟩) k c1,.slice (some ⟨g2,0,none⟩) k c2,.slice (some ⟨gX,0,none⟩) 16 c3,.int .i64 (1)] 26 nB _ Tryz.underlying26 rfl info_N ?_))
    refine HTo.mono ?_;rintro e w8 ⟨L',rfl,hN',hk8⟩;have n8:=nB.kepX hk8 (fun e=>by have e:some g2=some NB:=e;have:=zJ e;omega);have r8:=rB.kepX hk8 (fun e=>by have e:some g2=some (w.heap.size+1):=e;have:=zJ e;omega);have B8:=hk8.toBelow (hkB.toBelow hBr (fun b e=>by have e:b=w.heap.size+1∨b=NB:=e;omega)) (fun b e=>by have e:some g2=some b:=e;have:=zJ e;omega);have HN':=zD hN';clear hN' hk8 nB rB hkB HTo;go_wp2_with (first
     | (refine yC 26 (.tmp 8) (.tmp 83) (by rfl) (by rfl) NB (by rfl) [.slice L'.a1 N2.comps.length L'.c1,.slice L'.a2 N2.parts.length L'.c2,.slice L'.a3 N2.ctxs.length L'.c3,.int .i64 N2.part] (by rfl) _ 26 n8 info_N rfl (by simp[Value.oneCell']) ?_;intro wM EM gM sM;have rM:=r8.keptRow gM (by simp;omega))
     | (refine yE 26 (.tmp 8) (by rfl) (by rfl) NB (by rfl) [.slice L'.a1 N2.comps.length L'.c1,.slice L'.a2 N2.parts.length L'.c2,.slice L'.a3 N2.ctxs.length L'.c3,.int .i64 N2.part] 26 EM _ Tryz.underlying26 rfl info_N ?_)
     | (refine yC 26 (.tmp 4) (.tmp 84) (by rfl) (by rfl) (w.heap.size+1) (by rfl) [.slice L'.a1 N2.comps.length L'.c1,.slice L'.a2 N2.parts.length L'.c2,.slice L'.a3 N2.ctxs.length L'.c3,.int .i64 N2.part] (by rfl) _ 26 rM info_N rfl (by simp[Value.oneCell']) ?_;intro wR ER gR sR))
    have hL:=run_loadVar_mid wR _ 0 _ _ _ ER.cells Tryz.underlying26 rfl info_N;refine bodyPost_ret (v:=.tuple #[.agg #[.slice L'.a1 N2.comps.length L'.c1,.slice L'.a2 N2.parts.length L'.c2,.slice L'.a3 N2.ctxs.length L'.c3,.int .i64 N2.part],.int .i64 0]) ?_ rfl ?_
    ·exact zaQ (show Tryz.f25.results = #[.cell 4 26,.tmp 5]from rfl) (p:=⟨w.heap.size+1,0,none⟩) rfl rfl hL
    ·exact⟨L',rfl,fun W hW=>HN'.out W (((KepX.row gM (fun b e=>.inl (.inr (.inr (zJ e).symm)))).trans (KepX.row gR (fun b e=>.inl (.inr (.inl (zJ e).symm))))).trans (hW.mono (fun b _ h=>.inl h))),(B8.trans (yD gM (by omega) B8.size)).trans (yD gR (by omega) (by have:=B8.size;omega))⟩
   ·have hnx0:S14.next pt bit=2*pt+bit:=by unfold S14.next;rw[zI (by omega)]
    have hne1:2*pt+bit≠1:=by omega
    have hq1:(2*pt+bit==1)=false:=by simpa using hne1
    have nB:=nA;have rB:=rA;have hkB:=hkA;have hnx:=hnx0;clear nr rr kr nA rA hkA;by_cases h16:(2*pt+bit)/16=1
    ·have hop:S14.opens (2*pt+bit):=.inr (by omega);have hq2:((2*pt+bit)/16==1)=true:=by simpa using h16
     have HTo:=HT.out (2*pt+bit) _ hnx hkB hop;go_wp2_with (first
      | (refine yE 26 (.tmp 8) (by rfl) (by rfl) NB (by rfl) [.slice (some ⟨gC,0,none⟩) k c1,.slice (some ⟨g2,0,none⟩) k c2,.slice (some ⟨gX,0,none⟩) 16 c3,.int .i64 (2*pt+bit)] 26 nB _ Tryz.underlying26 rfl info_N ?_))
     refine HTo.mono ?_;rintro e w8 ⟨L',rfl,hN',hk8⟩;have n8:=nB.kepX hk8 (fun e=>by have e:some g2=some NB:=e;have:=zJ e;omega);have r8:=rB.kepX hk8 (fun e=>by have e:some g2=some (w.heap.size+1):=e;have:=zJ e;omega);have B8:=hk8.toBelow (hkB.toBelow hBr (fun b e=>by have e:b=w.heap.size+1∨b=NB:=e;omega)) (fun b e=>by have e:some g2=some b:=e;have:=zJ e;omega);have HN':=zD hN';clear hN' hk8 nB rB hkB HTo;go_wp2_with (first
      | (refine yC 26 (.tmp 8) (.tmp 83) (by rfl) (by rfl) NB (by rfl) [.slice L'.a1 N2.comps.length L'.c1,.slice L'.a2 N2.parts.length L'.c2,.slice L'.a3 N2.ctxs.length L'.c3,.int .i64 N2.part] (by rfl) _ 26 n8 info_N rfl (by simp[Value.oneCell']) ?_;intro wM EM gM sM;have rM:=r8.keptRow gM (by simp;omega))
      | (refine yE 26 (.tmp 8) (by rfl) (by rfl) NB (by rfl) [.slice L'.a1 N2.comps.length L'.c1,.slice L'.a2 N2.parts.length L'.c2,.slice L'.a3 N2.ctxs.length L'.c3,.int .i64 N2.part] 26 EM _ Tryz.underlying26 rfl info_N ?_)
      | (refine yC 26 (.tmp 4) (.tmp 84) (by rfl) (by rfl) (w.heap.size+1) (by rfl) [.slice L'.a1 N2.comps.length L'.c1,.slice L'.a2 N2.parts.length L'.c2,.slice L'.a3 N2.ctxs.length L'.c3,.int .i64 N2.part] (by rfl) _ 26 rM info_N rfl (by simp[Value.oneCell']) ?_;intro wR ER gR sR))
     have hL:=run_loadVar_mid wR _ 0 _ _ _ ER.cells Tryz.underlying26 rfl info_N;refine bodyPost_ret (v:=.tuple #[.agg #[.slice L'.a1 N2.comps.length L'.c1,.slice L'.a2 N2.parts.length L'.c2,.slice L'.a3 N2.ctxs.length L'.c3,.int .i64 N2.part],.int .i64 0]) ?_ rfl ?_
     ·exact zaQ (show Tryz.f25.results = #[.cell 4 26,.tmp 5]from rfl) (p:=⟨w.heap.size+1,0,none⟩) rfl rfl hL
     ·exact⟨L',rfl,fun W hW=>HN'.out W (((KepX.row gM (fun b e=>.inl (.inr (.inr (zJ e).symm)))).trans (KepX.row gR (fun b e=>.inl (.inr (.inl (zJ e).symm))))).trans (hW.mono (fun b _ h=>.inl h))),(B8.trans (yD gM (by omega) B8.size)).trans (yD gR (by omega) (by have:=B8.size;omega))⟩
    ·have hop:¬S14.opens (2*pt+bit):=fun h=>by
      rcases h with h|h
      ·omega
      ·omega
     have hq2:((2*pt+bit)/16==1)=false:=by simpa using h16
     have e2:=HP0.out (by rw[Hpt.out,hnx0];exact hop);have hNf:=HNI.out (2*pt+bit);rw[Hnc.out,Hpt.out,hnx0]at e2;have HN2:=zD e2;clear e2;have HNf:=zD hNf;clear hNf;go_wp2_with (first
      | (refine yE 26 (.tmp 8) (by rfl) (by rfl) NB (by rfl) [.slice (some ⟨gC,0,none⟩) k c1,.slice (some ⟨g2,0,none⟩) k c2,.slice (some ⟨gX,0,none⟩) 16 c3,.int .i64 (2*pt+bit)] 26 nB _ Tryz.underlying26 rfl info_N ?_)
      | (refine yC 26 (.tmp 4) (.tmp 84) (by rfl) (by rfl) (w.heap.size+1) (by rfl) [.slice (some ⟨gC,0,none⟩) k c1,.slice (some ⟨g2,0,none⟩) k c2,.slice (some ⟨gX,0,none⟩) 16 c3,.int .i64 (2*pt+bit)] (by rfl) _ 26 rB info_N rfl (by simp[Value.oneCell']) ?_;intro wR ER gR sR))
     have hL:=run_loadVar_mid wR _ 0 _ _ _ ER.cells Tryz.underlying26 rfl info_N;have Bf:=hkB.toBelow hBr (fun b e=>by have e:b=w.heap.size+1∨b=NB:=e;omega);refine bodyPost_ret (v:=.tuple #[.agg #[.slice (some ⟨gC,0,none⟩) k c1,.slice (some ⟨g2,0,none⟩) k c2,.slice (some ⟨gX,0,none⟩) 16 c3,.int .i64 (2*pt+bit)],.int .i64 0]) ?_ rfl ?_
     ·exact zaQ (show Tryz.f25.results = #[.cell 4 26,.tmp 5]from rfl) (p:=⟨w.heap.size+1,0,none⟩) rfl rfl hL
     ·refine⟨⟨some ⟨gC,0,none⟩,c1,some ⟨g2,0,none⟩,c2,some ⟨gX,0,none⟩,c3,ys⟩,?_,?_,Bf.trans (yD gR (by omega) Bf.size)⟩
      ·rw[HN2.out];simp only[hlm,Hnc.out,Hnx.out]
      ·rw[HN2.out];exact fun W hW=>HNf.out W (((hkB.mono (fun b _ h=>.inr h)).trans (KepX.row gR (fun b e=>.inl (.inr (.inl (zJ e).symm))))).trans (hW.mono (fun b _ h=>.inl h)))
theorem KepX.old{E X:Nat→Prop}{w0 w W:World}(hb:Below w0.heap.size w0 w)(hk:KepX X w W)(h:∀k,k<w0.heap.size→X k→E k):KepX E w0 W:=
 ⟨hk.os.trans hb.os,hk.tape.trans hb.tape,hk.output.trans hb.output,zZ hb.size hk.size,fun k hE hl=>(hk.same k (fun hx=>hE (h k hl hx)) (zaY hl hb.size)).trans (hb.block k hl)⟩
theorem zpR(N N2:S14.N)(L:NLay)(l:List Nat)(a:Option Addr)(cap:Nat)(w:World)(E:Nat→Prop)(hE:∀k,E k→k<w.heap.size)(hNE:∀W,KepX E w W→NIs N L W)(HR:zeC N L w)(h0:S14.checkNet N=0)(h1:N.part=1)(hl:l.length=16)(hlx:∀x∈l,x<4294967296)(hrd:Rd w a (zsS l))
 (HOp:zfY w ⟨N.comps,N.parts,l,1⟩ N2) :
 Calls Tryz.prog 27 #[NV N L,.slice a 16 cap] w fun e w'=>∃L',e = .returned (.tuple #[NV N2 L',.int .i64 0])∧(∀W,KepX E w' W→NIs N2 L' W)∧Below w.heap.size w w':=by
 have hN:=hNE w (KepX.refl _ _);have HE:=zD hE;have HNE:=zD hNE;obtain⟨hck,hpl,hxl,_,_,_⟩:=S14.checkNet_zero h0;obtain⟨hl0,hl16,_⟩:=S14.check_zero hck;obtain⟨W1,hW1⟩:∃W1,(w.alloc (.cells (zcN N L).toArray 26)).alloc (.cells zN 26)=W1:=⟨_,rfl⟩;have k1:Blk W1 w.heap.size (zcN N L) 26:=by rw[←hW1];exact(Blk.new w _ _).alloc _
 have r1:Blk W1 (w.heap.size+1) [.slice none 0 0,.slice none 0 0,.slice none 0 0,.int .i64 0] 26:=by
  rw[←hW1];have h:=Blk.new (w.alloc (.cells (zcN N L).toArray 26)) [.slice none 0 0,.slice none 0 0,.slice none 0 0,.int .i64 0] 26;rwa[zV]at h
 have B1:Below w.heap.size w W1:=by rw[←hW1];exact((zF _ _).alloc (zE _) _).alloc (by simp) _
 have HC:=zD (ziK N L W1 (hN.step B1) (by omega) (fun k c p y h1 h2 h3 h4 W hW=>HR k c p y h1 h2 h3 h4 W (zA B1 hW)));rw[h0]at HC;have HCp:=zD fun(W:World) (hW:Below w.heap.size w W)=>znB N L W (hN.step hW) ⟨hl0,hl16⟩ hpl hxl;obtain⟨gl,ol,rfl,_⟩:=hrd (fun e=>by have h:=yI List.length e;rw[zdA,List.length_nil]at h;omega);have HCl:=zD fun(W:World) (hW:Below w.heap.size w W)=>zpT (zsS l) 16 (by rw[zdA,hl]) (U32s_one l) gl ol cap W (by decide) (by decide) (hrd.step hW);have HN:=zD hN;have HO:=zD HOp;have Hlx:=zD hlx;have Hl:=zD hl;unfold zN at hW1;clear HR h0 hck HOp hlx hl hrd hE hNE;unfold NV zcN at HC HCp;unfold zcN at k1 hW1;unfold NV zcN;obtain⟨nc,hnc⟩:∃n,N.comps.length=n:=⟨_,rfl⟩;obtain⟨np,hnp⟩:∃n,N.parts.length=n:=⟨_,rfl⟩;obtain⟨nx,hnx⟩:∃n,N.ctxs.length=n:=⟨_,rfl⟩;rw[hnc,hnp,hnx,h1]at HC HCp k1 hW1;rw[hnp,hnc]at hpl;rw[hnx]at hxl;rw[hnc]at hl0 hl16;rw[hnc,hnp,hnx,h1];have Hnc:=zD hnc;have Hnp:=zD hnp;have Hpt:=zD h1;clear hnc hnp hnx h1 hN;subst hpl;subst hxl;go_enter Tryz.func27,Tryz.ntmps27;go_wp2_with (first
  | (rw[hW1])
  | (refine yE 26 (.tmp 2) (by rfl) (by rfl) w.heap.size (by rfl) [.slice L.a1 np L.c1,.slice L.a2 np L.c2,.slice L.a3 16 L.c3,.int .i64 1] 26 k1 _ Tryz.underlying26 rfl info_N ?_))
 refine HC.out.mono ?_;rintro e w2 ⟨rfl,hb2⟩;have k2:=k1.step hb2;have r2:=r1.step hb2;have B2:=zA B1 hb2;clear k1 r1 hW1 B1 hb2 HC;have cp:=k2.cell 3;simp only[ztB]at cp;go_wp2_with (first
  | (refine yE 26 (.tmp 2) (by rfl) (by rfl) w.heap.size (by rfl) [.slice L.a1 np L.c1,.slice L.a2 np L.c2,.slice L.a3 16 L.c3,.int .i64 1] 26 k2 _ Tryz.underlying26 rfl info_N ?_))
 refine(HCp.out _ B2).mono ?_;rintro e w4 ⟨a1,c1,a2,c2,a3,c3,rfl,own1,own2,own3,hb4⟩;have B4:=zA B2 hb4;have r4:=r2.step hb4;obtain⟨D,hD⟩:∃D,w2.heap.size=D:=⟨_,rfl⟩;have hwD:w.heap.size+1<D:=by rw[←hD];exact r2.lt
 rw[hD]at own1 own2 own3;unfold OwnP at own2;rw[Hnp.out]at own2;obtain⟨NB,hNB⟩:∃NB,w4.heap.size=NB:=⟨_,rfl⟩;have hb4s:=hb4.size;clear k2 r2 hb4 HCp B2 cp own3;have hDN:D≤NB:=by rw[←hD,←hNB];exact hb4s
 obtain⟨W5,hW5⟩:∃W5,w4.alloc (.cells #[.slice none 0 0,.slice none 0 0,.slice none 0 0,.int .i64 0] 26)=W5:=⟨_,rfl⟩;have hb5:Below w4.heap.size w4 W5:=by rw[←hW5];exact(zF _ _).alloc (zE _) _
 have EN:Blk W5 NB [.slice none 0 0,.slice none 0 0,.slice none 0 0,.int .i64 0] 26:=by rw[←hW5,←hNB];exact Blk.new w4 _ _
 obtain⟨gC,rfl,hC1,hC2,hC3,hC4⟩:=zcQ own1 hl0;obtain⟨g2,rfl,hP1,hP2,hP3,hP4⟩:=zcQ own2 hl0;rw[hNB]at hC2 hP2;have hneCP:gC≠g2:=zhG own1 own2 (by decide);go_wp2_with (first
  | (rw[hW5,hNB])
  | (rw[hW5])
  | (refine yC 26 (.tmp 7) (.tmp 25) (by rfl) (by rfl) NB (by rfl) [.slice (some ⟨gC,0,none⟩) np c1,.slice (some ⟨g2,0,none⟩) np c2,.slice a3 16 c3,.int .i64 1] (by rfl) _ 26 EN info_N rfl (by simp[Value.oneCell']) ?_;intro wL EL gL sL))
 have hXN:KepX (fun k=>k=NB) w4 wL:=(KepX.below hb5).trans (KepX.row gL (fun b e=>.inl (zJ e).symm));have BL:Below w.heap.size w wL:=hXN.toBelow B4 (fun k e=>by have e:k=NB:=e;omega);have rL:=r4.kepX hXN (show¬_=NB by omega);have own1L:=zbZ own1 hXN (fun g e=>by have e:some gC=some g:=e;cases e;show¬_=NB;omega);have own2L:=zbZ own2 hXN (fun g e=>by have e:some g2=some g:=e;cases e;show¬_=NB;omega);clear own1 own2 r4 B4 gL sL EN hb5 hXN hW5;refine(HCl.out _ BL).mono ?_;rintro e w6 ⟨bX,cX,rfl,ownX,hb6⟩;have B6:=zA BL hb6;have E6:=EL.step hb6;have r6:=rL.step hb6;have own16:=yU (B:=0) own1L hb6;have own26:=yU (B:=0) own2L hb6;have hzL:NB<wL.heap.size:=EL.lt;clear own1L own2L EL rL BL hb6 HCl;obtain⟨gX,rfl,hX1,hX2,hX3,hX4⟩:=zcQ ownX (by decide);have f2:=E6.cell 2;have f2f:=E6.free 2;have nB:=E6.set 2 (.slice (some ⟨gX,0,none⟩) 16 cX);have rB:=r6.other NB 2 (.slice (some ⟨gX,0,none⟩) 16 cX) (by omega);have hkA:KepX (fun b=>b=NB) w6 (w6.setCell ⟨NB,2,none⟩ (.slice (some ⟨gX,0,none⟩) 16 cX)):=KepX.row (zbC w6 NB 2 (.slice (some ⟨gX,0,none⟩) 16 cX)) (fun b e=>.inl (zJ e).symm);simp only[sC0,sCs,lgz,lgs]at f2 nB;obtain⟨w7,hw7⟩:∃W,w6.setCell ⟨NB,2,none⟩ (.slice (some ⟨gX,0,none⟩) 16 cX)=W:=⟨_,rfl⟩;rw[hw7]at nB rB hkA;have B7:Below w.heap.size w w7:=hkA.toBelow B6 (fun k e=>by have e:k=NB:=e;omega);have own17:=zbZ own16 hkA (fun g e=>by have e:some gC=some g:=e;cases e;show¬_=NB;omega);have own27:=zbZ own26 hkA (fun g e=>by have e:some g2=some g:=e;cases e;show¬_=NB;omega);have ownX7:=zbZ ownX hkA (fun g e=>by have e:some gX=some g:=e;cases e;show¬_=NB;omega);have hz7:=nB.lt;have hs7:w6.heap.size≤w7.heap.size:=hkA.size;have hz6:wL.heap.size≤w6.heap.size:=by omega
 have hXE:∀(X:Nat→Prop) W2,KepX X w7 W2→(∀k,k<w.heap.size→X k→E k)→NIs N L W2:=fun X W2 hk h=>HNE.out W2 (KepX.old B7 hk h)
 have HNI:∀W2,KepX (fun b=>E b∨b=w.heap.size+1∨b=NB) w7 W2→NIs ⟨N.comps,N.parts,l,1⟩ ⟨some ⟨gC,0,none⟩,c1,some ⟨g2,0,none⟩,c2,some ⟨gX,0,none⟩,cX,L.ys⟩ W2:=fun W2 hk=>
  {rc:=(Rd.of_owns own17).kepX hk (fun g o e=>by cases e;exact fun h=>h.elim (fun h=>by have:=HE.out _ h;omega) (fun h=>by omega))
   rp:=(Rd.of_owns own27).kepX hk (fun g o e=>by cases e;exact fun h=>h.elim (fun h=>by have:=HE.out _ h;omega) (fun h=>by omega))
   rx:=(Rd.of_owns ownX7).kepX hk (fun g o e=>by cases e;exact fun h=>h.elim (fun h=>by have:=HE.out _ h;omega) (fun h=>by omega))
   ly:=HN.out.ly
   ps:=fun j p y h1 h2=>(hXE _ W2 hk (fun k hl h=>h.elim (fun h=>h) (fun h=>by omega))).ps j p y h1 h2
   xs:=Hlx.out
   l1:=⟨by show N.comps.length≤_;rw[Hnc.out];exact hC3,hC4⟩
   l2:=⟨by show N.parts.length≤_;rw[Hnp.out];exact hP3,hP4⟩
   l3:=⟨by show l.length≤_;rw[Hl.out];exact hX3,hX4⟩}
 have HT:=HO.out ⟨some ⟨gC,0,none⟩,c1,some ⟨g2,0,none⟩,c2,some ⟨gX,0,none⟩,cX,L.ys⟩ w7 (fun b=>E b∨b=w.heap.size+1∨b=NB) B7 (fun k h=>h.elim (fun h=>by have:=HE.out _ h;have:=B7.size;omega) (fun h=>by omega)) HNI
  (by
    show w7.ownsRow w.heap.size 83 16 (.slice (some ⟨g2,0,none⟩) N.parts.length c2) N.parts.length (PCs N.parts L.ys);rw[Hnp.out];exact zcW own27 (by omega))
  (fun j p y h1 h2 W2 hk=>(hXE _ W2 hk (fun k hl h=>h.elim (fun h=>h.elim (fun h=>h) (fun h=>by omega)) (fun h=>by have h:some g2=some k:=h;have:=zJ h;omega))).ps j p y h1 h2)
  (fun b hb=>by
    have hb:some g2=some b:=hb;have:=zJ hb;exact fun h=>h.elim (fun h=>by have:=HE.out _ h;omega) (fun h=>by omega))
  (fun W2 hk=>⟨(Rd.of_owns own17).kepX hk (fun g o e=>by cases e;exact fun h=>h.elim (fun h=>h.elim (fun h=>by have:=HE.out _ h;omega) (fun h=>by omega)) (fun h=>by have h:some g2=some gC:=h;exact hneCP (zJ h).symm)),
    (Rd.of_owns ownX7).kepX hk (fun g o e=>by cases e;exact fun h=>h.elim (fun h=>h.elim (fun h=>by have:=HE.out _ h;omega) (fun h=>by omega)) (fun h=>by have h:some g2=some gX:=h;have:=zJ h;omega))⟩)
 unfold NV zcN at HT;simp only[Hnp.out,Hnc.out,Hl.out]at HT;have HTo:=zD HT;clear HT HO HNI hXE own16 own26 ownX own17 own27 ownX7 E6 r6 hkA;go_wp2_with (first
  | (rw[hw7])
  | (refine yE 26 (.tmp 7) (by rfl) (by rfl) NB (by rfl) [.slice (some ⟨gC,0,none⟩) np c1,.slice (some ⟨g2,0,none⟩) np c2,.slice (some ⟨gX,0,none⟩) 16 cX,.int .i64 1] 26 nB _ Tryz.underlying26 rfl info_N ?_))
 refine HTo.out.mono ?_;rintro e w8 ⟨L',rfl,hN',hk8⟩;have r8:=rB.kepX hk8 (fun e=>by have e:some g2=some (w.heap.size+1):=e;have:=zJ e;omega);have B8:=hk8.toBelow B7 (fun b e=>by have e:some g2=some b:=e;have:=zJ e;omega);have HN':=zD hN';clear hN' hk8 nB rB HTo;go_wp2_with (first
  | (refine yC 26 (.tmp 4) (.tmp 30) (by rfl) (by rfl) (w.heap.size+1) (by rfl) [.slice L'.a1 N2.comps.length L'.c1,.slice L'.a2 N2.parts.length L'.c2,.slice L'.a3 N2.ctxs.length L'.c3,.int .i64 N2.part] (by rfl) _ 26 r8 info_N rfl (by simp[Value.oneCell']) ?_;intro wR ER gR sR))
 have hL:=run_loadVar_mid wR _ 0 _ _ _ ER.cells Tryz.underlying26 rfl info_N;refine bodyPost_ret (v:=.tuple #[.agg #[.slice L'.a1 N2.comps.length L'.c1,.slice L'.a2 N2.parts.length L'.c2,.slice L'.a3 N2.ctxs.length L'.c3,.int .i64 N2.part],.int .i64 0]) ?_ rfl ?_
 ·exact zaQ (show Tryz.f27.results = #[.cell 4 26,.tmp 5]from rfl) (p:=⟨w.heap.size+1,0,none⟩) rfl rfl hL
 ·exact⟨L',rfl,fun W hW=>HN'.out W ((KepX.row gR (fun b e=>.inl (.inr (.inl (zJ e).symm)))).trans (hW.mono (fun b _ h=>.inl h))),B8.trans (yD gR (by omega) B8.size)⟩
def ctxL(b:Nat):List Nat:=(List.range 16).map (b * ·)
theorem zgL(b:Nat):(ctxL b).length=16:=by unfold ctxL;rw[yJ,List.length_range]
theorem ctxL_lt{b:Nat}(hb:b<256):∀x∈ctxL b,x<4294967296:=fun x hx=>by
 obtain⟨i,hi,rfl⟩:=List.mem_map.1 hx;rw[List.mem_range]at hi;have:b*i≤256*16:=Nat.mul_le_mul (by omega) (by omega);omega
def ctxK(b k:Nat):List Value:=(List.range 16).map fun i=>.int .u32 (if i<k then((b*i:Nat):Int)else 0)
theorem ctxK_set(b k:Nat):(ctxK b k).set k (.int .u32 ((b*k:Nat):Int))=ctxK b (k+1):=by
 unfold ctxK;apply List.ext_getElem?;intro j;rw[List.getElem?_set];simp only[yJ,List.length_range,zaX];by_cases h:k=j
 ·subst h;rw[zQ rfl];by_cases h16:k<16
  ·rw[zQ h16,List.getElem?_range h16];simp
  ·rw[zI h16,yW (by simp;omega)];rfl
 ·rw[zI h];by_cases h16:j<16
  ·rw[List.getElem?_range h16];simp only[Option.map_some,Option.some.injEq,Value.int.injEq,true_and];by_cases hk:j<k
   ·rw[zQ hk,zQ (by omega)]
   ·rw[zI hk,zI (by omega)]
  ·rw[yW (by simp;omega)];rfl
theorem ctxK_all(b:Nat):ctxK b 16=zsS (ctxL b):=by
 unfold ctxK zsS ctxL;rw[List.map_map];apply List.map_congr_left;intro i hi;rw[List.mem_range]at hi;rw[zQ hi];rfl
theorem ctxK_length(b k:Nat):(ctxK b k).length=16:=by unfold ctxK;rw[yJ,List.length_range]
theorem zmW(b:Nat)(hb:b<256)(w:World):Calls Tryz.prog 62 #[.int .u8 (b:Int)] w fun e w'=>∃g,e = .returned (.slice (some ⟨g,0,none⟩) 16 16)∧Rd w' (some ⟨g,0,none⟩) (zsS (ctxL b))∧Below w.heap.size w w':=by
 obtain⟨W1,hW1⟩:∃W1,w.alloc (.cells (List.replicate 16 (.int .u32 0)).toArray 109)=W1:=⟨_,rfl⟩;obtain⟨G,hG⟩:∃G,w.heap.size=G:=⟨_,rfl⟩;have E0:Blk W1 G (ctxK b 0) 109:=by rw[←hW1,←hG];exact Blk.new w (List.replicate 16 (.int .u32 0)) _
 have B1:Below G w W1:=by rw[←hW1,←hG];exact(zF _ _).alloc (zE _) _
 have hmk:=mk16 w;rw[hW1,hG]at hmk;rw[hG];clear hW1;go_enter Tryz.func62,Tryz.ntmps62;go_wp2;clear hmk;go_loopw [8] (fun i wr=>∃k:Nat,k≤16∧i = .int .i64 (k:Int)∧Blk wr G (ctxK b k) 109∧Below G w wr) (fun i _=>16-(intOf i).toNat)
 case atStart=>exact⟨0,by omega,rfl,E0,B1⟩
 case round=>
  clear E0 B1;obtain⟨k,hk,rfl,E,hB⟩:=hrel;have hz:=E.lt;by_cases hlt:k<16
  ·have hlt2:(k:Int)<16:=by omega
   have hm:b*k≤256*16:=Nat.mul_le_mul (by omega) (by omega);have e1:IntKind.u32.wrap ((b:Int)*(k:Int))=((b*k:Nat):Int):=by
    unfold IntKind.wrap;simp only[IntKind.signed,IntKind.bits];have:((b:Int)*(k:Int))=((b*k:Nat):Int):=by push_cast;rfl
    rw[this];simp;omega
   have hc:∃v,wr.cell? ⟨G,k,none⟩=some v:=by
    rw[E.cell];exact⟨_,zG (by rw[ctxK_length];exact hlt)⟩
   obtain⟨v,hc⟩:=hc;have hf:=E.free k;have E2:=E.set k (.int .u32 ((b*k:Nat):Int));rw[ctxK_set]at E2;have hB2:Below G w (wr.setCell ⟨G,k,none⟩ (.int .u32 ((b*k:Nat):Int))):=hB.trans (yD (zbC wr G k _) (zE _) (by omega));go_wp2;go_roundw
   case rel=>exact⟨k+1,by omega,by simp,by rw[←Int.natCast_mul];exact E2,by rw[←Int.natCast_mul];exact hB2⟩
   case measure=>simp[intOf];omega
  ·obtain rfl:k=16:=by omega
   rw[ctxK_all]at E;go_wp2;go_returns;exact⟨G,rfl,fun _=>⟨G,0,rfl,E.cells⟩,hB⟩
def PartAt(j:Nat)(p:Int):Prop:=(j<8∧(2:Int)^j≤p∧p<2^(j+1))∨(j=8∧p=1)
theorem PartAt.zero:PartAt 0 1:=.inl ⟨by decide,by decide,by decide⟩
theorem PartAt.one{p:Int}(h:PartAt 8 p):p=1:=by
 rcases h with h|h
 ·omega
 ·exact h.2
theorem PartAt.next{j:Nat}{p bit:Int}(h:PartAt j p)(hj:j<8)(hb:bit=0∨bit=1):PartAt (j+1) (S14.next p bit):=by
 have hc:j=0∨j=1∨j=2∨j=3∨j=4∨j=5∨j=6∨j=7:=by omega
 unfold PartAt S14.next at *;rcases hc with rfl|rfl|rfl|rfl|rfl|rfl|rfl|rfl<;>simp at h⊢ <;>rcases hb with rfl|rfl<;>first|omega|(intro _;omega)|(split<;>omega)
theorem and1_all14:∀y<256,bits BinOp.and IntKind.u8 ((y:Nat):Int) 1=0∨bits BinOp.and IntKind.u8 ((y:Nat):Int) 1=1:=by decide +kernel
theorem and1_14(x:Nat)(hx:x<256)(j:Nat):bits BinOp.and IntKind.u8 ((x:Int)/2^(7-j)) 1=0∨bits BinOp.and IntKind.u8 ((x:Int)/2^(7-j)) 1=1:=by
 have e:(x:Int)/2^(7-j)=((x/2^(7-j):Nat):Int):=by simp
 rw[e];exact and1_all14 _ (Nat.lt_of_le_of_lt (Nat.div_le_self _ _) hx)
