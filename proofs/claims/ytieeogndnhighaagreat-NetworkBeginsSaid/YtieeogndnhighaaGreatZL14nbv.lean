/- A part of the proof of L14n. No condition. -/
import Derived.Test.YtieeogndnhighaaGreatZL14nba
import Derived.Test.YtieeogndnhighaaGreatZL14nbj
import Derived.Test.YtieeogndnhighaaGreatZL14nbr
import Derived.Test.YtieeogndnhighaaGreatZL14nbs
set_option linter.all false
set_option maxRecDepth 100000
set_option maxHeartbeats 40000000
namespace Go.Proofs.YtieeogndnhighaaGreat
open Go.RowKit
attribute [local irreducible] Go.wpList
namespace S14
def big(p:P):Prop:=300<p.ctrs.length∨1100<p.sd.length∨(6<p.sb∧p.sb<60)∨200<p.m.bytes.length∨100<p.m.heads.length∨(6<p.m.bits∧p.m.bits<60)∨60<p.m.ctrs.length∨100<p.mw.length∨2200<p.ac.length∨∃r∈p.mw,40<r.length
def small(N:N):Prop:=fewC N.comps=true∧N.parts.length≤40∧N.ctxs.length≤60∧∀p∈N.parts,¬big p
end S14
theorem zdL{w w':World}{b:Nat}(hg:w.grownBy w' (some b)){g o:Nat}{v:Value}(h:w.cell? ⟨g,o,none⟩=some v)(hne:g≠b):w'.cell? ⟨g,o,none⟩=some v:=by
 have hl:=zJ h;unfold World.cell? at h⊢;rw[hg.block g hl (fun e=>hne (zO e))];exact h
theorem NRaw.part_at{N:S14.N}{L:NLay}{w:World}(h:NRaw N L w){k:Nat}(hk:k<N.parts.length):∃b o p y,L.a2=some ⟨b,o,none⟩∧N.parts[k]? = some p∧L.ys[k]? = some y∧w.rangeAt b (o+k*16) (yG p y)∧PRaw p y w:=by
 obtain⟨p,hp⟩:∃p,N.parts[k]? = some p:=⟨_,zI hk⟩;obtain⟨y,hy⟩:∃y,L.ys[k]? = some y:=⟨_,zI (by rw[h.ly];exact hk)⟩;obtain⟨b,o,e,hcs⟩:=h.rp (fun e=>by have h1:=yQ List.length e;rw[zcR _ _ h.ly]at h1;simp at h1;omega);refine⟨b,o,p,y,e,hp,hy,fun j v hv=> ?_,h.ps k p y hp hy⟩;have hj:j<16:=by have:=(List.getElem?_eq_some_iff.1 hv).1;rwa[yW]at this
 have:=hcs (16*k+j) v ((PCs_at _ _ hp hy hj).trans hv);rw[show o+(16*k+j)=o+k*16+j by omega]at this;exact this
theorem few14_any(N:S14.N)(L:NLay)(w:World)(hN:NRaw N L w)(R:Bool)(hR:R=true↔S14.small N) :
 Calls Tryz.prog 13 #[NV N L] w fun e w'=>e = .returned (.bool R)∧Below w.heap.size w w':=by
 have HF:=zD fun(W:World) (hW:Below w.heap.size w W)=>zpL N.comps L.a1 L.c1 W (hN.rc.step hW);have HN:=zD hN;have HR:=zD hR;unfold NV zbP;obtain⟨W1,hW1⟩:∃W1,w.alloc (.cells #[.slice L.a1 N.comps.length L.c1,.slice L.a2 N.parts.length L.c2,.slice L.a3 N.ctxs.length L.c3,.int .i64 N.part] 26)=W1:=⟨_,rfl⟩;have k1:Blk W1 w.heap.size [.slice L.a1 N.comps.length L.c1,.slice L.a2 N.parts.length L.c2,.slice L.a3 N.ctxs.length L.c3,.int .i64 N.part] 26:=by rw[←hW1];exact Blk.new w _ _
 have B1:Below w.heap.size w W1:=by rw[←hW1];exact(zG _ _).alloc (zE _) _
 obtain⟨F,hF⟩:∃F,S14.fewC N.comps=F:=⟨_,rfl⟩;rw[hF]at HF;have HFC:=zD hF;obtain⟨nc,hnc⟩:∃n,N.comps.length=n:=⟨_,rfl⟩;obtain⟨np,hnp⟩:∃n,N.parts.length=n:=⟨_,rfl⟩;obtain⟨nx,hnx⟩:∃n,N.ctxs.length=n:=⟨_,rfl⟩;obtain⟨pt,hpt⟩:∃n,N.part=n:=⟨_,rfl⟩;rw[hnc]at HF;rw[hnc,hnp,hnx,hpt]at hW1 k1;rw[hnc,hnp,hnx,hpt];have Hnp:=zD hnp;have Hnx:=zD hnx;clear hnc hnp hnx hpt hF hN hR;have c0:=k1.cell 0;simp only[zrD]at c0;go_enter Tryz.func13,Tryz.ntmps13;go_wp2_with (rw[hW1]);refine(HF.out _ B1).mono ?_;rintro e w2 ⟨rfl,hb2⟩;have hB2:=zA B1 hb2;have k2:=k1.step hb2;clear k1 c0;have c1:=k2.cell 1;have c2:=k2.cell 2;simp only[zrD]at c1 c2;cases F with
 | false=>
   obtain rfl:R=false:=by rw[Bool.eq_false_iff];intro e;have:=(HR.out.1 e).1;rw[HFC.out]at this;cases this
   go_wp2_with fail;go_returns;exact⟨rfl,hB2⟩
 | true=>
 by_cases h40:40<np
 ·have hz:(40:Int)<np:=by omega
  obtain rfl:R=false:=by rw[Bool.eq_false_iff];intro e;have:=(HR.out.1 e).2.1;rw[Hnp.out]at this;omega
  go_wp2_with fail;go_returns;exact⟨rfl,hB2⟩
 have hz40:¬(40:Int)<np:=by omega
 by_cases h60:60<nx
 ·have hz:(60:Int)<nx:=by omega
  obtain rfl:R=false:=by rw[Bool.eq_false_iff];intro e;have:=(HR.out.1 e).2.2.1;rw[Hnx.out]at this;omega
  go_wp2_with fail;go_returns;exact⟨rfl,hB2⟩
 have hz60:¬(60:Int)<nx:=by omega
 go_wp2_with fail;clear c1 c2;go_loopw [3] (fun i wr=>∃k:Nat,k≤np∧i = .int .i64 (k:Int)∧RowKit.Hid (∀(j:Nat) (x:S14.P),j<k→N.parts[j]? = some x→¬S14.big x)∧Blk wr w.heap.size [.slice L.a1 nc L.c1,.slice L.a2 np L.c2,.slice L.a3 nx L.c3,.int .i64 pt] 26∧Below w.heap.size w wr) (fun i _=>np-(intOf i).toNat)
 case atStart=>exact⟨0,by omega,rfl,zD (fun j x hj=>by omega),k2,hB2⟩
 case round=>
  clear k2 hB2;obtain⟨k,hk,rfl,hall,kr,hB⟩:=hrel;have c1:=kr.cell 1;simp only[zrD]at c1;by_cases hlt:k<np
  ·obtain⟨bb,ob,p,y,hL2,hp,hy,hcs0,hPR⟩:=HN.out.part_at (k:=k) (by rw[Hnp.out];exact hlt);rw[hL2]at c1 kr;have hkz:(k:Int)<(np:Int):=by omega
   have hcs:=zaC hcs0 hB;have hPl:some 16=some (yG p y).length:=rfl;have hPl2:(yG S14.P0 zbC).length=(yG p y).length:=rfl;have h1:=zaE p y;have Hp:=zD hp;obtain⟨W2,hW2⟩:∃W2,wr.alloc (.cells zP 83)=W2:=⟨_,rfl⟩;have kz:Blk W2 wr.heap.size (yG S14.P0 zbC) 83:=by rw[←hW2];exact zeE wr
   have hb2:Below wr.heap.size wr W2:=by rw[←hW2];exact(zG _ _).alloc (zE _) _
   have kr2:=kr.step hb2;obtain⟨Q,hQ⟩:∃Q,wr.heap.size=Q:=⟨_,rfl⟩;have hQl:w.heap.size<Q:=hQ▸kr.lt;rw[hQ]at kz;obtain⟨rows,a3',cap3,hL3,hV3,hl3c,hl3m,hrd3,hrok⟩:=hPR.mix;have Hmw:=zD hL3;have Hrd3:=zD (hrd3.step hB);have Hrok:=zD (fun r hr=>(hrok r hr).step hB);clear hp hy hcs0 hPR hrd3 hrok;obtain⟨VS,hVS⟩:∃VS,yG p y=VS:=⟨_,rfl⟩;rw[hVS]at hcs hPl hPl2 h1;unfold yG at hVS;unfold MixC at hV3;obtain⟨l1,e1⟩:∃n,p.ctrs.length=n:=⟨_,rfl⟩;obtain⟨l2,e2⟩:∃n,p.sd.length=n:=⟨_,rfl⟩;obtain⟨sb,e3⟩:∃n,p.sb=n:=⟨_,rfl⟩;obtain⟨lb,e4⟩:∃n,p.m.bytes.length=n:=⟨_,rfl⟩;obtain⟨lh,e5⟩:∃n,p.m.heads.length=n:=⟨_,rfl⟩;obtain⟨mb,e6⟩:∃n,p.m.bits=n:=⟨_,rfl⟩;obtain⟨lc,e7⟩:∃n,p.m.ctrs.length=n:=⟨_,rfl⟩;obtain⟨l3,e8⟩:∃n,p.mw.length=n:=⟨_,rfl⟩;obtain⟨l4,e9⟩:∃n,p.ac.length=n:=⟨_,rfl⟩;rw[e1,e2,e3,e4,e5,e6,e7,e8,e9]at hVS;rw[e8]at hV3;have V:Hid (VS[0]? = some (.slice y.a1 l1 y.c1)∧VS[1]? = some (.int .i64 sb)∧VS[2]? = some (.slice y.a2 l2 y.c2)∧VS[4]? = some (.int .i64 mb)∧VS[6]? = some (.slice y.pl.ah lh y.pl.ch)∧VS[7]? = some (.slice y.pl.ab lb y.pl.cb)∧VS[12]? = some (.slice y.pl.ac lc y.pl.cc)∧VS[14]? = some (.slice y.a3 l3 y.c3)∧VS[15]? = some (.slice y.a4 l4 y.c4)):=zD (by subst hVS;exact⟨rfl,rfl,rfl,rfl,rfl,rfl,rfl,rfl,rfl⟩);have HV3:=zD hV3;have HPl:=zD hPl;have HPl2:=zD hPl2;have H1:=zD h1;have HL2:=zD hL2;clear hVS hV3 hPl hPl2 h1 hL2 hL3 hl3c hl3m;have E:=zD (zeV e1 (zeV e2 (zeV e3 (zeV e4 (zeV e5 (zeV e6 (zeV e7 (zeV e8 e9))))))));clear e1 e2 e3 e4 e5 e6 e7 e8 e9
   have hbig:Hid (300<l1∨1100<l2∨(6<sb∧sb<60)∨200<lb∨100<lh∨(6<mb∧mb<60)∨60<lc∨100<l3∨2200<l4∨(∃r∈p.mw,40<r.length)→R=false):=zD fun h=>by
    obtain⟨e1,e2,e3,e4,e5,e6,e7,e8,e9⟩:=E.out;rw[Bool.eq_false_iff];intro e;exact(HR.out.1 e).2.2.2 p (yN Hp.out) (by unfold S14.big;rw[e1,e2,e3,e4,e5,e6,e7,e8,e9];exact h)
   go_wp2_with (first
    | ((with_reducible show wpList _ _ _ (Oper.mk _ (.alloc _) _ _ _ _::_) _ _);refine yU 83 zP zbS (by rfl) (by rfl) ?_;rw[hW2,hQ])
    | ((with_reducible show wpList _ _ _ (Oper.mk _ (.load _ _) _ _ _ _::_) _ _);refine wpList_load_mid (by rfl) 83 (.tmp 32) (by rfl) bb (ob+k*16) (by rfl) VS _ hcs Tryz.underlying83 rfl (info_P.trans HPl.out) ?_)
    | ((with_reducible show wpList _ _ _ (Oper.mk _ (.store _ _ _) _ _ _ _::_) _ _);refine yE 83 (.tmp 4) (.tmp 33) (by rfl) (by rfl) Q (by rfl) VS (by rfl) _ 83 kz (info_P.trans HPl.out) HPl2.out H1.out ?_))
   intro wL EL gL sL;clear sL;have q0:=(EL.cell 0).trans V.out.1;have q1:=(EL.cell 1).trans V.out.2.1;have q2:=(EL.cell 2).trans V.out.2.2.1;have q4:=(EL.cell 4).trans V.out.2.2.2.1;have q6:=(EL.cell 6).trans V.out.2.2.2.2.1;have q7:=(EL.cell 7).trans V.out.2.2.2.2.2.1;have q12:=(EL.cell 12).trans V.out.2.2.2.2.2.2.1;have q14:=(EL.cell 14).trans V.out.2.2.2.2.2.2.2.1;have q15:=(EL.cell 15).trans V.out.2.2.2.2.2.2.2.2;by_cases d0:300<l1
   ·have z0:decide ((300:Int)<(l1:Int))=true:=zQ (by omega);obtain rfl:R=false:=hbig.out (.inl d0);clear hbig HR;go_wp2_with (first
     | ((with_reducible show wpList _ _ _ (Oper.mk _ _ _ _ _ (some (_,true))::_) _ _);refine wpList_skip (by rfl) ?_;simp only[zrB]))
    all_goals go_returns
    all_goals exact⟨rfl,(zA hB hb2).trans (yB gL (by omega) (zA hB hb2).size)⟩
   have z0:decide ((300:Int)<(l1:Int))=false:=zL (by omega);by_cases d1:1100<l2
   ·have z1:decide ((1100:Int)<(l2:Int))=true:=zQ (by omega);obtain rfl:R=false:=hbig.out (.inr (.inl d1));clear hbig HR;go_wp2_with (first
     | ((with_reducible show wpList _ _ _ (Oper.mk _ _ _ _ _ (some (_,true))::_) _ _);refine wpList_skip (by rfl) ?_;simp only[zrB]))
    all_goals go_returns
    all_goals exact⟨rfl,(zA hB hb2).trans (yB gL (by omega) (zA hB hb2).size)⟩
   have z1:decide ((1100:Int)<(l2:Int))=false:=zL (by omega);by_cases d2:6<sb
   ·have z2:decide (6<sb)=true:=zQ d2;by_cases f2:sb<60
    ·have y2:decide (sb<60)=true:=zQ f2;obtain rfl:R=false:=hbig.out (.inr (.inr (.inl ⟨d2,f2⟩)));clear hbig HR;go_wp2_with (first
      | ((with_reducible show wpList _ _ _ (Oper.mk _ _ _ _ _ (some (_,true))::_) _ _);refine wpList_skip (by rfl) ?_;simp only[zrB]))
     all_goals go_returns
     all_goals exact⟨rfl,(zA hB hb2).trans (yB gL (by omega) (zA hB hb2).size)⟩
    have y2:decide (sb<60)=false:=zL f2;by_cases d3:200<lb
    ·have z3:decide ((200:Int)<(lb:Int))=true:=zQ (by omega);obtain rfl:R=false:=hbig.out (.inr (.inr (.inr (.inl d3))));clear hbig HR;go_wp2_with (first
      | ((with_reducible show wpList _ _ _ (Oper.mk _ _ _ _ _ (some (_,true))::_) _ _);refine wpList_skip (by rfl) ?_;simp only[zrB]))
     all_goals go_returns
     all_goals exact⟨rfl,(zA hB hb2).trans (yB gL (by omega) (zA hB hb2).size)⟩
    have z3:decide ((200:Int)<(lb:Int))=false:=zL (by omega);by_cases d4:100<lh
    ·have z4:decide ((100:Int)<(lh:Int))=true:=zQ (by omega);obtain rfl:R=false:=hbig.out (.inr (.inr (.inr (.inr (.inl d4)))));clear hbig HR;go_wp2_with (first
      | ((with_reducible show wpList _ _ _ (Oper.mk _ _ _ _ _ (some (_,true))::_) _ _);refine wpList_skip (by rfl) ?_;simp only[zrB]))
     all_goals go_returns
     all_goals exact⟨rfl,(zA hB hb2).trans (yB gL (by omega) (zA hB hb2).size)⟩
    have z4:decide ((100:Int)<(lh:Int))=false:=zL (by omega);by_cases d5:6<mb
    ·have z5:decide (6<mb)=true:=zQ d5;by_cases f5:mb<60
     ·have y5:decide (mb<60)=true:=zQ f5;obtain rfl:R=false:=hbig.out (.inr (.inr (.inr (.inr (.inr (.inl ⟨d5,f5⟩))))));clear hbig HR;go_wp2_with (first
       | ((with_reducible show wpList _ _ _ (Oper.mk _ _ _ _ _ (some (_,true))::_) _ _);refine wpList_skip (by rfl) ?_;simp only[zrB]))
      all_goals go_returns
      all_goals exact⟨rfl,(zA hB hb2).trans (yB gL (by omega) (zA hB hb2).size)⟩
     have y5:decide (mb<60)=false:=zL f5;by_cases d6:60<lc
     ·have z6:decide ((60:Int)<(lc:Int))=true:=zQ (by omega);obtain rfl:R=false:=hbig.out (.inr (.inr (.inr (.inr (.inr (.inr (.inl d6)))))));clear hbig HR;go_wp2_with (first
       | ((with_reducible show wpList _ _ _ (Oper.mk _ _ _ _ _ (some (_,true))::_) _ _);refine wpList_skip (by rfl) ?_;simp only[zrB]))
      all_goals go_returns
      all_goals exact⟨rfl,(zA hB hb2).trans (yB gL (by omega) (zA hB hb2).size)⟩
     have z6:decide ((60:Int)<(lc:Int))=false:=zL (by omega);by_cases d7:100<l3
     ·have z7:decide ((100:Int)<(l3:Int))=true:=zQ (by omega);obtain rfl:R=false:=hbig.out (.inr (.inr (.inr (.inr (.inr (.inr (.inr (.inl d7))))))));clear hbig HR;go_wp2_with (first
       | ((with_reducible show wpList _ _ _ (Oper.mk _ _ _ _ _ (some (_,true))::_) _ _);refine wpList_skip (by rfl) ?_;simp only[zrB]))
      all_goals go_returns
      all_goals exact⟨rfl,(zA hB hb2).trans (yB gL (by omega) (zA hB hb2).size)⟩
     have z7:decide ((100:Int)<(l3:Int))=false:=zL (by omega);by_cases d8:2200<l4
     ·have z8:decide ((2200:Int)<(l4:Int))=true:=zQ (by omega);obtain rfl:R=false:=hbig.out (.inr (.inr (.inr (.inr (.inr (.inr (.inr (.inr (.inl d8)))))))));clear hbig HR;go_wp2_with (first
       | ((with_reducible show wpList _ _ _ (Oper.mk _ _ _ _ _ (some (_,true))::_) _ _);refine wpList_skip (by rfl) ?_;simp only[zrB]))
      all_goals go_returns
      all_goals exact⟨rfl,(zA hB hb2).trans (yB gL (by omega) (zA hB hb2).size)⟩
     have z8:decide ((2200:Int)<(l4:Int))=false:=zL (by omega);go_wp2_with (first
      | ((with_reducible show wpList _ _ _ (Oper.mk _ _ _ _ _ (some (_,true))::_) _ _);refine wpList_skip (by rfl) ?_;simp only[zrB]))
     have BL:=(zA hB hb2).trans (yB gL (by omega) (zA hB hb2).size);have kL:=kr2.keptRow gL (fun e=>by have e:w.heap.size=Q:=zO e;omega);have hV4:y.a3=a3'∧l3=rows.length∧y.c3=cap3:=by simpa using HV3.out
     obtain⟨hV5,hV6,_⟩:=hV4;rw[hV5]at q14
     have Hgr:Hid (∀(g o:Nat) (v:Value),wr.cell? ⟨g,o,none⟩=some v→wL.cell? ⟨g,o,none⟩=some v):=zD fun g o v h=>by
      have h1:=zJ h;have h1:g<wr.heap.size:=h1;exact zdL gL ((hb2.cell (zJ h)).trans h) (by omega)
     have HV6:=zD hV6;clear hV5 hV6 gL kr2 hb2;go_loopw [5] (fun i wv=>∃r:Nat,r≤l3∧i = .int .i64 (r:Int)∧RowKit.Hid (∀(j:Nat) (z:List Int),j<r→p.mw[j]? = some z→¬40<z.length)∧wv=wL) (fun i _=>l3-(intOf i).toNat)
     case atStart=>exact⟨0,by omega,rfl,zD (fun j x hj=>by omega),rfl⟩
     case round=>
      obtain⟨r,hr,rfl,hrow,rfl⟩:=hrel;by_cases hlr:r<l3
      ·have hrz:(r:Int)<(l3:Int):=by omega
       obtain⟨rr,g3,o3,hrr,rfl,hcell,_,_⟩:=zfG Hrd3.out Hrok.out (k:=r) (by rw[←HV6.out];exact hlr);have c3:=Hgr.out _ _ _ hcell;have Hpr:=zD (show p.mw[r]? = some rr.l by rw[Hmw.out,zaH,hrr];rfl);clear hcell hrr;by_cases h40:40<rr.l.length
       ·have z40:(40:Int)<(rr.l.length:Int):=by omega
        obtain rfl:R=false:=hbig.out (.inr (.inr (.inr (.inr (.inr (.inr (.inr (.inr (.inr ⟨rr.l,yN Hpr.out,h40⟩)))))))));clear hbig HR;go_wp2;go_returns;exact⟨rfl,BL⟩
       ·have z40:¬(40:Int)<(rr.l.length:Int):=by omega
        have Hn:Hid (∀(j:Nat) (z:List Int),j<r+1→p.mw[j]? = some z→¬40<z.length):=zD fun j z hj hz=>by
         rcases zaR j r with h|h
         ·exact hrow.out j z h hz
         ·obtain rfl:j=r:=by omega
          rw[Hpr.out]at hz;cases hz;exact h40
        go_wp2;go_roundw
        case rel=>exact⟨r+1,by omega,by go_num,Hn,by first|rfl|trivial⟩
        case measure=>simp[intOf];omega
      ·obtain rfl:r=l3:=by omega
       have Hn:Hid (∀(j:Nat) (x:S14.P),j<k+1→N.parts[j]? = some x→¬S14.big x):=zD fun j z hj hz=>by
        rcases zaR j k with h|h
        ·exact hall.out j z h hz
        ·obtain rfl:j=k:=by omega
         rw[Hp.out]at hz;cases hz;obtain⟨e1,e2,e3,e4,e5,e6,e7,e8,e9⟩:=E.out;unfold S14.big;rw[e1,e2,e3,e4,e5,e6,e7,e8,e9];rintro(h|h|h|h|h|h|h|h|h|⟨z,hz,h⟩);all_goals first|omega|skip
         obtain⟨i,hi⟩:=List.getElem?_of_mem hz;exact hrow.out i z (by have:=(List.getElem?_eq_some_iff.1 hi).1;omega) hi h
       go_wp2;go_roundw
       case rel=>
        rw[←HL2.out]at kL;exact⟨k+1,by omega,by go_num,Hn,kL,BL⟩
       case measure=>simp[intOf];omega
    have z5:decide (6<mb)=false:=zL d5;by_cases d6:60<lc
    ·have z6:decide ((60:Int)<(lc:Int))=true:=zQ (by omega);obtain rfl:R=false:=hbig.out (.inr (.inr (.inr (.inr (.inr (.inr (.inl d6)))))));clear hbig HR;go_wp2_with (first
      | ((with_reducible show wpList _ _ _ (Oper.mk _ _ _ _ _ (some (_,true))::_) _ _);refine wpList_skip (by rfl) ?_;simp only[zrB]))
     all_goals go_returns
     all_goals exact⟨rfl,(zA hB hb2).trans (yB gL (by omega) (zA hB hb2).size)⟩
    have z6:decide ((60:Int)<(lc:Int))=false:=zL (by omega);by_cases d7:100<l3
    ·have z7:decide ((100:Int)<(l3:Int))=true:=zQ (by omega);obtain rfl:R=false:=hbig.out (.inr (.inr (.inr (.inr (.inr (.inr (.inr (.inl d7))))))));clear hbig HR;go_wp2_with (first
      | ((with_reducible show wpList _ _ _ (Oper.mk _ _ _ _ _ (some (_,true))::_) _ _);refine wpList_skip (by rfl) ?_;simp only[zrB]))
     all_goals go_returns
     all_goals exact⟨rfl,(zA hB hb2).trans (yB gL (by omega) (zA hB hb2).size)⟩
    have z7:decide ((100:Int)<(l3:Int))=false:=zL (by omega);by_cases d8:2200<l4
    ·have z8:decide ((2200:Int)<(l4:Int))=true:=zQ (by omega);obtain rfl:R=false:=hbig.out (.inr (.inr (.inr (.inr (.inr (.inr (.inr (.inr (.inl d8)))))))));clear hbig HR;go_wp2_with (first
      | ((with_reducible show wpList _ _ _ (Oper.mk _ _ _ _ _ (some (_,true))::_) _ _);refine wpList_skip (by rfl) ?_;simp only[zrB]))
     all_goals go_returns
     all_goals exact⟨rfl,(zA hB hb2).trans (yB gL (by omega) (zA hB hb2).size)⟩
    have z8:decide ((2200:Int)<(l4:Int))=false:=zL (by omega);go_wp2_with (first
     | ((with_reducible show wpList _ _ _ (Oper.mk _ _ _ _ _ (some (_,true))::_) _ _);refine wpList_skip (by rfl) ?_;simp only[zrB]))
    have BL:=(zA hB hb2).trans (yB gL (by omega) (zA hB hb2).size);have kL:=kr2.keptRow gL (fun e=>by have e:w.heap.size=Q:=zO e;omega);have hV4:y.a3=a3'∧l3=rows.length∧y.c3=cap3:=by simpa using HV3.out
    obtain⟨hV5,hV6,_⟩:=hV4;rw[hV5]at q14
    have Hgr:Hid (∀(g o:Nat) (v:Value),wr.cell? ⟨g,o,none⟩=some v→wL.cell? ⟨g,o,none⟩=some v):=zD fun g o v h=>by
     have h1:=zJ h;have h1:g<wr.heap.size:=h1;exact zdL gL ((hb2.cell (zJ h)).trans h) (by omega)
    have HV6:=zD hV6;clear hV5 hV6 gL kr2 hb2;go_loopw [5] (fun i wv=>∃r:Nat,r≤l3∧i = .int .i64 (r:Int)∧RowKit.Hid (∀(j:Nat) (z:List Int),j<r→p.mw[j]? = some z→¬40<z.length)∧wv=wL) (fun i _=>l3-(intOf i).toNat)
    case atStart=>exact⟨0,by omega,rfl,zD (fun j x hj=>by omega),rfl⟩
    case round=>
     obtain⟨r,hr,rfl,hrow,rfl⟩:=hrel;by_cases hlr:r<l3
     ·have hrz:(r:Int)<(l3:Int):=by omega
      obtain⟨rr,g3,o3,hrr,rfl,hcell,_,_⟩:=zfG Hrd3.out Hrok.out (k:=r) (by rw[←HV6.out];exact hlr);have c3:=Hgr.out _ _ _ hcell;have Hpr:=zD (show p.mw[r]? = some rr.l by rw[Hmw.out,zaH,hrr];rfl);clear hcell hrr;by_cases h40:40<rr.l.length
      ·have z40:(40:Int)<(rr.l.length:Int):=by omega
       obtain rfl:R=false:=hbig.out (.inr (.inr (.inr (.inr (.inr (.inr (.inr (.inr (.inr ⟨rr.l,yN Hpr.out,h40⟩)))))))));clear hbig HR;go_wp2;go_returns;exact⟨rfl,BL⟩
      ·have z40:¬(40:Int)<(rr.l.length:Int):=by omega
       have Hn:Hid (∀(j:Nat) (z:List Int),j<r+1→p.mw[j]? = some z→¬40<z.length):=zD fun j z hj hz=>by
        rcases zaR j r with h|h
        ·exact hrow.out j z h hz
        ·obtain rfl:j=r:=by omega
         rw[Hpr.out]at hz;cases hz;exact h40
       go_wp2;go_roundw
       case rel=>exact⟨r+1,by omega,by go_num,Hn,by first|rfl|trivial⟩
       case measure=>simp[intOf];omega
     ·obtain rfl:r=l3:=by omega
      have Hn:Hid (∀(j:Nat) (x:S14.P),j<k+1→N.parts[j]? = some x→¬S14.big x):=zD fun j z hj hz=>by
       rcases zaR j k with h|h
       ·exact hall.out j z h hz
       ·obtain rfl:j=k:=by omega
        rw[Hp.out]at hz;cases hz;obtain⟨e1,e2,e3,e4,e5,e6,e7,e8,e9⟩:=E.out;unfold S14.big;rw[e1,e2,e3,e4,e5,e6,e7,e8,e9];rintro(h|h|h|h|h|h|h|h|h|⟨z,hz,h⟩);all_goals first|omega|skip
        obtain⟨i,hi⟩:=List.getElem?_of_mem hz;exact hrow.out i z (by have:=(List.getElem?_eq_some_iff.1 hi).1;omega) hi h
      go_wp2;go_roundw
      case rel=>
       rw[←HL2.out]at kL;exact⟨k+1,by omega,by go_num,Hn,kL,BL⟩
      case measure=>simp[intOf];omega
   have z2:decide (6<sb)=false:=zL d2;by_cases d3:200<lb
   ·have z3:decide ((200:Int)<(lb:Int))=true:=zQ (by omega);obtain rfl:R=false:=hbig.out (.inr (.inr (.inr (.inl d3))));clear hbig HR;go_wp2_with (first
     | ((with_reducible show wpList _ _ _ (Oper.mk _ _ _ _ _ (some (_,true))::_) _ _);refine wpList_skip (by rfl) ?_;simp only[zrB]))
    all_goals go_returns
    all_goals exact⟨rfl,(zA hB hb2).trans (yB gL (by omega) (zA hB hb2).size)⟩
   have z3:decide ((200:Int)<(lb:Int))=false:=zL (by omega);by_cases d4:100<lh
   ·have z4:decide ((100:Int)<(lh:Int))=true:=zQ (by omega);obtain rfl:R=false:=hbig.out (.inr (.inr (.inr (.inr (.inl d4)))));clear hbig HR;go_wp2_with (first
     | ((with_reducible show wpList _ _ _ (Oper.mk _ _ _ _ _ (some (_,true))::_) _ _);refine wpList_skip (by rfl) ?_;simp only[zrB]))
    all_goals go_returns
    all_goals exact⟨rfl,(zA hB hb2).trans (yB gL (by omega) (zA hB hb2).size)⟩
   have z4:decide ((100:Int)<(lh:Int))=false:=zL (by omega);by_cases d5:6<mb
   ·have z5:decide (6<mb)=true:=zQ d5;by_cases f5:mb<60
    ·have y5:decide (mb<60)=true:=zQ f5;obtain rfl:R=false:=hbig.out (.inr (.inr (.inr (.inr (.inr (.inl ⟨d5,f5⟩))))));clear hbig HR;go_wp2_with (first
      | ((with_reducible show wpList _ _ _ (Oper.mk _ _ _ _ _ (some (_,true))::_) _ _);refine wpList_skip (by rfl) ?_;simp only[zrB]))
     all_goals go_returns
     all_goals exact⟨rfl,(zA hB hb2).trans (yB gL (by omega) (zA hB hb2).size)⟩
    have y5:decide (mb<60)=false:=zL f5;by_cases d6:60<lc
    ·have z6:decide ((60:Int)<(lc:Int))=true:=zQ (by omega);obtain rfl:R=false:=hbig.out (.inr (.inr (.inr (.inr (.inr (.inr (.inl d6)))))));clear hbig HR;go_wp2_with (first
      | ((with_reducible show wpList _ _ _ (Oper.mk _ _ _ _ _ (some (_,true))::_) _ _);refine wpList_skip (by rfl) ?_;simp only[zrB]))
     all_goals go_returns
     all_goals exact⟨rfl,(zA hB hb2).trans (yB gL (by omega) (zA hB hb2).size)⟩
    have z6:decide ((60:Int)<(lc:Int))=false:=zL (by omega);by_cases d7:100<l3
    ·have z7:decide ((100:Int)<(l3:Int))=true:=zQ (by omega);obtain rfl:R=false:=hbig.out (.inr (.inr (.inr (.inr (.inr (.inr (.inr (.inl d7))))))));clear hbig HR;go_wp2_with (first
      | ((with_reducible show wpList _ _ _ (Oper.mk _ _ _ _ _ (some (_,true))::_) _ _);refine wpList_skip (by rfl) ?_;simp only[zrB]))
     all_goals go_returns
     all_goals exact⟨rfl,(zA hB hb2).trans (yB gL (by omega) (zA hB hb2).size)⟩
    have z7:decide ((100:Int)<(l3:Int))=false:=zL (by omega);by_cases d8:2200<l4
    ·have z8:decide ((2200:Int)<(l4:Int))=true:=zQ (by omega);obtain rfl:R=false:=hbig.out (.inr (.inr (.inr (.inr (.inr (.inr (.inr (.inr (.inl d8)))))))));clear hbig HR;go_wp2_with (first
      | ((with_reducible show wpList _ _ _ (Oper.mk _ _ _ _ _ (some (_,true))::_) _ _);refine wpList_skip (by rfl) ?_;simp only[zrB]))
     all_goals go_returns
     all_goals exact⟨rfl,(zA hB hb2).trans (yB gL (by omega) (zA hB hb2).size)⟩
    have z8:decide ((2200:Int)<(l4:Int))=false:=zL (by omega);go_wp2_with (first
     | ((with_reducible show wpList _ _ _ (Oper.mk _ _ _ _ _ (some (_,true))::_) _ _);refine wpList_skip (by rfl) ?_;simp only[zrB]))
    have BL:=(zA hB hb2).trans (yB gL (by omega) (zA hB hb2).size);have kL:=kr2.keptRow gL (fun e=>by have e:w.heap.size=Q:=zO e;omega);have hV4:y.a3=a3'∧l3=rows.length∧y.c3=cap3:=by simpa using HV3.out
    obtain⟨hV5,hV6,_⟩:=hV4;rw[hV5]at q14
    have Hgr:Hid (∀(g o:Nat) (v:Value),wr.cell? ⟨g,o,none⟩=some v→wL.cell? ⟨g,o,none⟩=some v):=zD fun g o v h=>by
     have h1:=zJ h;have h1:g<wr.heap.size:=h1;exact zdL gL ((hb2.cell (zJ h)).trans h) (by omega)
    have HV6:=zD hV6;clear hV5 hV6 gL kr2 hb2;go_loopw [5] (fun i wv=>∃r:Nat,r≤l3∧i = .int .i64 (r:Int)∧RowKit.Hid (∀(j:Nat) (z:List Int),j<r→p.mw[j]? = some z→¬40<z.length)∧wv=wL) (fun i _=>l3-(intOf i).toNat)
    case atStart=>exact⟨0,by omega,rfl,zD (fun j x hj=>by omega),rfl⟩
    case round=>
     obtain⟨r,hr,rfl,hrow,rfl⟩:=hrel;by_cases hlr:r<l3
     ·have hrz:(r:Int)<(l3:Int):=by omega
      obtain⟨rr,g3,o3,hrr,rfl,hcell,_,_⟩:=zfG Hrd3.out Hrok.out (k:=r) (by rw[←HV6.out];exact hlr);have c3:=Hgr.out _ _ _ hcell;have Hpr:=zD (show p.mw[r]? = some rr.l by rw[Hmw.out,zaH,hrr];rfl);clear hcell hrr;by_cases h40:40<rr.l.length
      ·have z40:(40:Int)<(rr.l.length:Int):=by omega
       obtain rfl:R=false:=hbig.out (.inr (.inr (.inr (.inr (.inr (.inr (.inr (.inr (.inr ⟨rr.l,yN Hpr.out,h40⟩)))))))));clear hbig HR;go_wp2;go_returns;exact⟨rfl,BL⟩
      ·have z40:¬(40:Int)<(rr.l.length:Int):=by omega
       have Hn:Hid (∀(j:Nat) (z:List Int),j<r+1→p.mw[j]? = some z→¬40<z.length):=zD fun j z hj hz=>by
        rcases zaR j r with h|h
        ·exact hrow.out j z h hz
        ·obtain rfl:j=r:=by omega
         rw[Hpr.out]at hz;cases hz;exact h40
       go_wp2;go_roundw
       case rel=>exact⟨r+1,by omega,by go_num,Hn,by first|rfl|trivial⟩
       case measure=>simp[intOf];omega
     ·obtain rfl:r=l3:=by omega
      have Hn:Hid (∀(j:Nat) (x:S14.P),j<k+1→N.parts[j]? = some x→¬S14.big x):=zD fun j z hj hz=>by
       rcases zaR j k with h|h
       ·exact hall.out j z h hz
       ·obtain rfl:j=k:=by omega
        rw[Hp.out]at hz;cases hz;obtain⟨e1,e2,e3,e4,e5,e6,e7,e8,e9⟩:=E.out;unfold S14.big;rw[e1,e2,e3,e4,e5,e6,e7,e8,e9];rintro(h|h|h|h|h|h|h|h|h|⟨z,hz,h⟩);all_goals first|omega|skip
        obtain⟨i,hi⟩:=List.getElem?_of_mem hz;exact hrow.out i z (by have:=(List.getElem?_eq_some_iff.1 hi).1;omega) hi h
      go_wp2;go_roundw
      case rel=>
       rw[←HL2.out]at kL;exact⟨k+1,by omega,by go_num,Hn,kL,BL⟩
      case measure=>simp[intOf];omega
   have z5:decide (6<mb)=false:=zL d5;by_cases d6:60<lc
   ·have z6:decide ((60:Int)<(lc:Int))=true:=zQ (by omega);obtain rfl:R=false:=hbig.out (.inr (.inr (.inr (.inr (.inr (.inr (.inl d6)))))));clear hbig HR;go_wp2_with (first
     | ((with_reducible show wpList _ _ _ (Oper.mk _ _ _ _ _ (some (_,true))::_) _ _);refine wpList_skip (by rfl) ?_;simp only[zrB]))
    all_goals go_returns
    all_goals exact⟨rfl,(zA hB hb2).trans (yB gL (by omega) (zA hB hb2).size)⟩
   have z6:decide ((60:Int)<(lc:Int))=false:=zL (by omega);by_cases d7:100<l3
   ·have z7:decide ((100:Int)<(l3:Int))=true:=zQ (by omega);obtain rfl:R=false:=hbig.out (.inr (.inr (.inr (.inr (.inr (.inr (.inr (.inl d7))))))));clear hbig HR;go_wp2_with (first
     | ((with_reducible show wpList _ _ _ (Oper.mk _ _ _ _ _ (some (_,true))::_) _ _);refine wpList_skip (by rfl) ?_;simp only[zrB]))
    all_goals go_returns
    all_goals exact⟨rfl,(zA hB hb2).trans (yB gL (by omega) (zA hB hb2).size)⟩
   have z7:decide ((100:Int)<(l3:Int))=false:=zL (by omega);by_cases d8:2200<l4
   ·have z8:decide ((2200:Int)<(l4:Int))=true:=zQ (by omega);obtain rfl:R=false:=hbig.out (.inr (.inr (.inr (.inr (.inr (.inr (.inr (.inr (.inl d8)))))))));clear hbig HR;go_wp2_with (first
     | ((with_reducible show wpList _ _ _ (Oper.mk _ _ _ _ _ (some (_,true))::_) _ _);refine wpList_skip (by rfl) ?_;simp only[zrB]))
    all_goals go_returns
    all_goals exact⟨rfl,(zA hB hb2).trans (yB gL (by omega) (zA hB hb2).size)⟩
   have z8:decide ((2200:Int)<(l4:Int))=false:=zL (by omega);go_wp2_with (first
    | ((with_reducible show wpList _ _ _ (Oper.mk _ _ _ _ _ (some (_,true))::_) _ _);refine wpList_skip (by rfl) ?_;simp only[zrB]))
   have BL:=(zA hB hb2).trans (yB gL (by omega) (zA hB hb2).size);have kL:=kr2.keptRow gL (fun e=>by have e:w.heap.size=Q:=zO e;omega);have hV4:y.a3=a3'∧l3=rows.length∧y.c3=cap3:=by simpa using HV3.out
   obtain⟨hV5,hV6,_⟩:=hV4;rw[hV5]at q14
   have Hgr:Hid (∀(g o:Nat) (v:Value),wr.cell? ⟨g,o,none⟩=some v→wL.cell? ⟨g,o,none⟩=some v):=zD fun g o v h=>by
    have h1:=zJ h;have h1:g<wr.heap.size:=h1;exact zdL gL ((hb2.cell (zJ h)).trans h) (by omega)
   have HV6:=zD hV6;clear hV5 hV6 gL kr2 hb2;go_loopw [5] (fun i wv=>∃r:Nat,r≤l3∧i = .int .i64 (r:Int)∧RowKit.Hid (∀(j:Nat) (z:List Int),j<r→p.mw[j]? = some z→¬40<z.length)∧wv=wL) (fun i _=>l3-(intOf i).toNat)
   case atStart=>exact⟨0,by omega,rfl,zD (fun j x hj=>by omega),rfl⟩
   case round=>
    obtain⟨r,hr,rfl,hrow,rfl⟩:=hrel;by_cases hlr:r<l3
    ·have hrz:(r:Int)<(l3:Int):=by omega
     obtain⟨rr,g3,o3,hrr,rfl,hcell,_,_⟩:=zfG Hrd3.out Hrok.out (k:=r) (by rw[←HV6.out];exact hlr);have c3:=Hgr.out _ _ _ hcell;have Hpr:=zD (show p.mw[r]? = some rr.l by rw[Hmw.out,zaH,hrr];rfl);clear hcell hrr;by_cases h40:40<rr.l.length
     ·have z40:(40:Int)<(rr.l.length:Int):=by omega
      obtain rfl:R=false:=hbig.out (.inr (.inr (.inr (.inr (.inr (.inr (.inr (.inr (.inr ⟨rr.l,yN Hpr.out,h40⟩)))))))));clear hbig HR;go_wp2;go_returns;exact⟨rfl,BL⟩
     ·have z40:¬(40:Int)<(rr.l.length:Int):=by omega
      have Hn:Hid (∀(j:Nat) (z:List Int),j<r+1→p.mw[j]? = some z→¬40<z.length):=zD fun j z hj hz=>by
       rcases zaR j r with h|h
       ·exact hrow.out j z h hz
       ·obtain rfl:j=r:=by omega
        rw[Hpr.out]at hz;cases hz;exact h40
      go_wp2;go_roundw
      case rel=>exact⟨r+1,by omega,by go_num,Hn,by first|rfl|trivial⟩
      case measure=>simp[intOf];omega
    ·obtain rfl:r=l3:=by omega
     have Hn:Hid (∀(j:Nat) (x:S14.P),j<k+1→N.parts[j]? = some x→¬S14.big x):=zD fun j z hj hz=>by
      rcases zaR j k with h|h
      ·exact hall.out j z h hz
      ·obtain rfl:j=k:=by omega
       rw[Hp.out]at hz;cases hz;obtain⟨e1,e2,e3,e4,e5,e6,e7,e8,e9⟩:=E.out;unfold S14.big;rw[e1,e2,e3,e4,e5,e6,e7,e8,e9];rintro(h|h|h|h|h|h|h|h|h|⟨z,hz,h⟩);all_goals first|omega|skip
       obtain⟨i,hi⟩:=List.getElem?_of_mem hz;exact hrow.out i z (by have:=(List.getElem?_eq_some_iff.1 hi).1;omega) hi h
     go_wp2;go_roundw
     case rel=>
      rw[←HL2.out]at kL;exact⟨k+1,by omega,by go_num,Hn,kL,BL⟩
     case measure=>simp[intOf];omega
  ·obtain rfl:k=np:=by omega
   obtain rfl:R=true:=by
    rw[HR.out];refine⟨HFC.out,by rw[Hnp.out];omega,by rw[Hnx.out];omega,fun p hp=> ?_⟩;obtain⟨j,hj⟩:=List.getElem?_of_mem hp;exact hall.out j p (by have:=(List.getElem?_eq_some_iff.1 hj).1;rw[Hnp.out]at this;exact this) hj
   go_wp2;go_returns;exact⟨rfl,hB⟩
