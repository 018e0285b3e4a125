/- A part of the proof of L14l. No condition. -/
import Derived.Test.YthhgkafloejjiaaGreatZL14lbo
import Derived.Test.YthhgkafloejjiaaGreatZL14lbq
set_option linter.all false
set_option maxRecDepth 100000
set_option maxHeartbeats 20000000
namespace Go.Proofs.YthhgkafloejjiaaGreat
open Go.RowKit
def ROpenHolds(w:World)(N N':S14.N):Prop:=∀(L:NLay) (W:World) (X:Nat→Prop),Below w w W→(∀k,X k→k<W.heap.size)→(∀W2,KepX X W W2→NIs N L W2)→OwnP W w.heap.size L.a2 L.c2 N.parts L.ys→
 (∀(j:Nat) (p:S14.P) (y:Lay),N.parts[j]? = some p→L.ys[j]? = some y→PRobX (fun k=>X k∨(Value.slice L.a2 N.parts.length L.c2).ownBlock=some k) p y W)→
 (∀g,(Value.slice L.a2 N.parts.length L.c2).ownBlock=some g→¬X g)→
 (∀W2,KepX (fun k=>X k∨(Value.slice L.a2 N.parts.length L.c2).ownBlock=some k) W W2→Rd W2 L.a1 (zfG N.comps)∧Rd W2 L.a3 (zlZ N.ctxs))→
 Calls Tryz.prog 24 #[NV N L] W fun e w'=>e = .returned (.tuple #[])∧∃ys,zaN N' {L with ys:=ys}=zaN N L∧(∀W2,KepX X w' W2→NIs N' {L with ys:=ys} W2)∧KepX (fun k=>(Value.slice L.a2 N.parts.length L.c2).ownBlock=some k) W w'
theorem zrR(w:World)(N:S14.N)(bw:1≤N.comps.length)(hl:N.comps.length≤16)(ba:∀c∈N.comps,0≤c.kind∧c.kind≤6)(aJ:N.parts.length=N.comps.length)(aH:N.ctxs.length=16)(bz:1≤N.part)(aG:N.part≤255):ROpenHolds w N (S14.opened N):=by
 intro L f X hW hX aW ay be bl hR;obtain⟨a1,E,a2,c2,D,z,S⟩:=L;obtain⟨a,bi,bS,bT,bJ,bI⟩:=zcH ay om;simp only at bi;subst bi;have aD:¬X a:=bl a rfl;clear bl;have aO:∀(j:Nat) (p:S14.P) (y:Lay),N.parts[j]? = some p→S[j]? = some y→PRobX (fun k=>X k∨k=a) p y f:=fun j p y s q=>(be j p y s q).change (fun k _ Q=>Q.elim .inl (fun e=>.inr (by rw[e];rfl)));have ar:∀r,KepX (fun k=>X k∨k=a) f r→Rd r a1 (zfG N.comps)∧Rd r D (zlZ N.ctxs):=fun r h=>hR r (h.mono (fun k _ Q=>Q.elim .inl (fun e=>.inr (by rw[e];rfl))));have aL:∀r,KepX (fun k=>k=a) f r→Rd r a1 (zfG N.comps)∧Rd r D (zlZ N.ctxs):=fun r h=>ar r (h.mono (fun k _ Q=>.inr Q));have h0:=aW f (KepX.refl _ _);obtain⟨A,C,aZ,_⟩:=h0.rc (fun e=>by have h:=yG List.length e;rw[zaB,List.length_nil]at h;omega);simp only at aZ;subst aZ;obtain⟨v,ax⟩:∃n:Nat,N.part=(n:Int):=⟨N.part.toNat,by omega⟩;have bv:v<4294967296:=by omega
 obtain⟨d,al⟩:=zvJ N.comps.length;have aa:N.parts.length=d:=aJ.trans al
 have bg:=zC fun(k:Nat) (l:List Lay) (wr:World) (s:KepX (fun k=>k=a) f wr) (q:l.length=d) (h3:wr.ownsRow w.heap.size 50 16 (.slice (some ⟨a,0,none⟩) d c2) d (PCs (S14.openK N k) l)) (h4:∀(j:Nat) (p:S14.P) (y:Lay),(S14.openK N k)[j]? = some p→l[j]? = some y→PRobX (fun b=>X b∨b=a) p y wr)=>
  opened_is (ps:=S14.openK N k) h0 aD ar (S14.openK_length N k) aa s q h3 (fun j p y e1 e2=>h4 j p y e1 e2)
 have aN:f.ownsRow w.heap.size 50 16 (.slice (some ⟨a,0,none⟩) d c2) d (PCs N.parts S):=aa▸ay;have aK:S.length=d:=h0.ly.trans aa;have eV:NV N ⟨some ⟨A,C,none⟩,E,some ⟨a,0,none⟩,c2,D,z,S⟩ = .agg #[.slice (some ⟨A,C,none⟩) d E,.slice (some ⟨a,0,none⟩) d c2,.slice D 16 z,v]:=by
  unfold NV zaN;rw[al,aa,aH,ax]
 rw[eV]
 have bE:=zC fun(l:List Lay)=>(show zaN (S14.opened N) ⟨some ⟨A,C,none⟩,E,some ⟨a,0,none⟩,c2,D,z,l⟩=zaN N ⟨some ⟨A,C,none⟩,E,some ⟨a,0,none⟩,c2,D,z,S⟩ by
  unfold zaN S14.opened;simp only[S14.openK_length])
 obtain⟨bq,aQ,aS,an⟩:=zh4 ba al aa aH;obtain⟨bC,bx⟩:=zh2 ax hX;have bH:=zC fun r h=>(aL r h).2;have bN:=zC aD;have bU:d≤16:=by omega
 obtain⟨W1,bd,m,B1⟩:=al1 f [.slice (some ⟨A,C,none⟩) d E,.slice (some ⟨a,0,none⟩) d c2,.slice D 16 z,v] 26;have aU:KepX (fun k=>k=a) f W1:=KepX.below B1;obtain⟨bn,bk,bm⟩:=zh3 (yM (B:=0) aN B1) (show∀(j:Nat) (p:S14.P) (y:Lay),N.parts[j]? = some p→S[j]? = some y→PRobX (fun b=>X b∨b=a) p y W1 from fun j p y s q=>(aO j p y s q).kep (KepX.below B1)) aK;have c0:=m.cell 0;simp only[lgz]at c0;clear aW ay be hR aN aO ar aL h0 al aa aH ax aJ hl bw ba eV hX aD aK bz aG B1;go_enter Tryz.func24,Tryz.ntmps24;go_wp2_with (rw[bd]);clear c0
 go_loopw [2] (fun i wr=>∃(k:Nat) (l:List Lay),k≤d∧i = .int .i64 (k:Int)∧Hid (l.length=d)∧Blk wr f [.slice (some ⟨A,C,none⟩) d E,.slice (some ⟨a,0,none⟩) d c2,.slice D 16 z,v] 26∧KepX (fun b=>b=a) f wr∧
  Hid (wr.ownsRow w.heap.size 50 16 (.slice (some ⟨a,0,none⟩) d c2) d (PCs (S14.openK N k) l))∧
  Hid (∀(j:Nat) (p:S14.P) (y:Lay),(S14.openK N k)[j]? = some p→l[j]? = some y→PRobX (fun b=>X b∨b=a) p y wr)) (fun i _=>d-(intOf i).toNat)
 case atStart=>exact⟨0,S,by omega,rfl,bm,m,aU,bn,bk⟩
 case round=>
  clear m aU bd bn bk bm;obtain⟨k,l,Q,rfl,ah,m,t,af,ag⟩:=hrel;have bM:=t.size;have n0:wr.cell? ⟨f,0,none⟩=some (.slice (some ⟨A,C,none⟩) d E):=m.cell 0;have n1:wr.cell? ⟨f,1,none⟩=some (.slice (some ⟨a,0,none⟩) d c2):=m.cell 1;have n2:wr.cell? ⟨f,2,none⟩=some (.slice D 16 z):=m.cell 2;have n3:wr.cell? ⟨f,3,none⟩=some (.int .i64 (v:Int)):=m.cell 3;by_cases bp:k<d
  ·have bR:(k:Int)<(d:Int):=by omega
   obtain⟨x,hx⟩:∃x,N.comps[k]? = some x:=⟨_,zD (by have:=aQ.out;omega)⟩;have az:=bg.out k l wr t ah.out af.out ag.out wr (KepX.refl _ _);obtain⟨g',o',aB,x0,x1,x2,x3,x4,x5⟩:=az.comp_at hx;cases aB;have a8:=bq.out x (yF hx);obtain⟨bb,Hx⟩:=zh2 az hx;clear az hx x1 x2 x3 x4 x5;by_cases ad:x.kind=2
   rotate_left
   ·have bD:(x.kind==2)=false:=by simpa using ad
    have F:=zC (S14.openK_plain Hx.out ad);clear a8;go_wp2;go_roundw
    case rel=>exact⟨k+1,l,by omega,by simp,ah,m,t,F.out.symm▸af,F.out.symm▸ag⟩
    case measure=>simp[intOf];omega
   have bD:(x.kind==2)=true:=by simpa using ad
   have aI:=bb.out;obtain⟨g',o',p,y,aB,hp,hy,am,hP⟩:=aI.part_at (k:=k) (by show k<(S14.openK N k).length;rw[S14.openK_length,aS.out];exact bp);cases aB;have hp:(S14.openK N k)[k]? = some p:=hp;have hy:l[k]? = some y:=hy;have F:=S14.openK_hist hp Hx.out ad;unfold S14.open1 at F;have bh:N.part.toNat=v:=by rw[bC.out];rfl
   rw[bh]at F;have ak:=S14.hash_lt (N.ctxs.getD k 0) v;obtain⟨T,R,aC,aA,ai⟩:=aI.ctx_at (k:=k) (by show k<N.ctxs.length;rw[an.out];omega);have aC:D=some ⟨T,R,none⟩:=aC;subst aC;have aA:wr.cell? ⟨T,R+k,none⟩=some (.int .u32 (N.ctxs.getD k 0:Nat)):=aA;have ai:N.ctxs.getD k 0<4294967296:=ai;have aE:=fun W=>zpW (N.ctxs.getD k 0) v ai bv W;obtain⟨hv,aR⟩:=zvJ (S14.hash (N.ctxs.getD k 0) v);rw[aR]at aE F ak;have ae:=fun(W:World) (hW:Below wr wr W)=>ropen10_any p.sb p.sd hv ak y.a2 y.c2 W (hP.tab.step hW);have a5:=zC (OK8.openX hP.tab.ok p.sb hv ak);obtain⟨B,Z,J,EE,hB,aj,av,bj⟩:=zz4 (S10.openB p.sb p.sd) (S10.openX p.sb p.sd hv) (S10.openN p.sb p.sd hv) (S10.check p.sb p.sd);rw[hB,aj,av]at F;simp only[hB,aj,av,bj]at ae;rw[aj]at a5;unfold zcK at ae;have q1:=am 1 _ rfl;have q2:=am 2 _ rfl;have q3:=am 3 _ rfl;simp only[yE]at q1 q2 q3;obtain⟨sb,sl,aq,aw⟩:=zz2 p.sb p.sd.length;rw[aq]at q1;rw[aw]at q2;simp only[aq,aw]at ae;have bt:=af;have a9:=ag;obtain⟨ao,bu,aV,Hp⟩:=zh4 aE ae F hp;have Hy:=zC hy;obtain⟨cx,aM⟩:=zvJ (N.ctxs.getD k 0);rw[aM]at aA ao
   have O:∀W,Blk W f [.slice (some ⟨A,C,none⟩) d E,.slice (some ⟨a,0,none⟩) d c2,.slice (some ⟨T,R,none⟩) 16 z,v] 26→KepX (fun b=>b=a) f W→zdM [(⟨f,0,none⟩,.slice (some ⟨A,C,none⟩) d E),(⟨f,1,none⟩,.slice (some ⟨a,0,none⟩) d c2),(⟨f,2,none⟩,.slice (some ⟨T,R,none⟩) 16 z),(⟨f,3,none⟩,v),(⟨T,R+k,none⟩,.int .u32 (cx:Int))] W:=fun W h Q=>by
    obtain⟨b',o',e,hc⟩:=(bH.out W Q).at (i:=k) (by rw[zbT,an.out];omega);cases e;refine⟨h.cell 0,h.cell 1,h.cell 2,h.cell 3,?_,zT⟩;have q:=hc k (by rw[zbT,an.out];omega);rw[q,←aM];rw[zK,zD (by rw[an.out];omega)];simp[zlZ]
   have bP:k<16:=by omega
   have bQ:(k:Int)<16:=by omega
   clear ad a8 aI am hP F hp hy hB aj av bj aq aw aE ae aR ak bh af ag bb ai;go_wp2_with fail;refine zaO 25 0 (.read 0 (.read 1 (.read 2 (.read 3 (.read 4 (.read 6 (.read 7 (.read 8 (.read 9 (.read 10 (.read 11 (.read 12 (.two (.one 5 (.one 13 (.one 14 (.read 15 (.read 16 (.read 17 (.read 18 (.read 19 (.read 20 (.one 21 (.read 22 (.read 23 (.one 24 .done))))))))))))) (.one 13 (.one 5 (.one 14 (.read 15 (.read 16 (.read 17 (.read 18 (.read 19 (.read 20 (.one 21 (.read 22 (.read 23 (.one 24 .done)))))))))))))))))))))))))) _ _ o0P (zdM [(⟨f,0,none⟩,.slice (some ⟨A,C,none⟩) d E),(⟨f,1,none⟩,.slice (some ⟨a,0,none⟩) d c2),(⟨f,2,none⟩,.slice (some ⟨T,R,none⟩) 16 z),(⟨f,3,none⟩,v),(⟨T,R+k,none⟩,.int .u32 (cx:Int))]) zk (zU 25 _).symm zk zk zk zk (O _ (m.step (zJ _ _).drew) (t.trans (KepX.below (zJ _ _).drew))) (fun Y Q4 F4 hY hF=> ?_);simp only[Plan.map,ltc,ltz,ldc,ldz,zdG,zeF];repeat refine mpH ?_
   have M:Below wr wr wr.drew:=(zJ _ _).drew;obtain⟨v0,br⟩:=zvJ wr.drew;rw[br]at M⊢;have bO:=(M.cell (zE q1)).trans q1;have bK:=(M.cell (zE q2)).trans q2;refine zbV ?_ ?_;refine mpV (O _ (m.step M) (t.trans (KepX.below M))) ?_;refine mpC ?_;refine mnb M (ao.out _) fun v1 a4 u=> ?_;refine⟨_,rfl,O _ (m.step u) (t.trans (KepX.below u)),?_⟩;simp only[zvF]
   rotate_left
   refine mpC ?_;refine mnb M (ao.out _) fun v1 a4 u=> ?_;refine⟨_,rfl,O _ (m.step u) (t.trans (KepX.below u)),?_⟩;simp only[zvF];have bF:=(u.cell (zE q1)).trans q1;have bA:=(u.cell (zE q2)).trans q2;refine mpV (O _ (m.step u) (t.trans (KepX.below u))) ?_;clear bF bA
   all_goals
    skip
    refine mpC ?_;refine(bu.out _ u).mono ?_;rintro e v2 ⟨V,rfl,a0,bf⟩;have H:=zA u bf;obtain⟨I,P,rfl,hT,aX⟩:=a0.open a5.out;have bL:=u.size;unfold zcK;refine⟨_,rfl,O _ (m.step H) (t.trans (KepX.below H)),?_⟩;simp only[zvF];repeat refine mpH ?_
    have au:=yM (B:=0) bt.out H;refine zkN 40 (.tmp 42) (.tmp 38) by3 (by rw[hY];rfl) a (k*16+1) #[B,.slice I Z.length P] by3 by3 (zdL au (by show k*16+1+2≤d*16;omega)) zlC by4 ?_;obtain⟨G,ap⟩:=zvJ (v2.setCells a (k*16+1) (#[B,.slice I Z.length P]:Array Value).toList);rw[ap];have zrY:=zgT au (o:=k*16+1) (vs:=[.int .i64 B,.slice I Z.length P]) (by show k*16+1+2≤d*16;omega);have U:=yL a [B,.slice I Z.length P] (k*16+1) v2;have s3:G.cell? ⟨a,k*16+3,none⟩=some (.int .i64 p.slot):=by
     rw[←ap];exact(World.cell?_setCells_out a _ _ v2 _ (fun _ _=>.inr (by show k*16+1+2≤k*16+3;omega))).trans (H.cell (zE q3) |>.trans q3)
    have bo:v2.setCells a (k*16+1) [B,.slice I Z.length P]=G:=ap;rw[bo]at zrY U;have t3:=zdL zrY (o:=k*16+3) (k:=1) om;have f3:G.frozen? ⟨a,k*16+3,none⟩=false:=(t3 0 om).2;have ac:=zgT zrY (o:=k*16+3) (vs:=[.int .i64 (J:Int)]) (by show k*16+3+1≤d*16;omega);have a7:=(m.step H).kepX (KepX.row (X:=fun b=>b=a) U (fun b e=>.inl (zI e).symm)) (show¬_=a by omega);refine⟨O _ a7 ((t.trans (KepX.below H)).trans (KepX.row U (fun b e=>.inl (zI e).symm))),?_⟩;simp only[zvF];repeat refine mpH ?_
    refine zkM (by rw[hY];rfl) (by go_simp;first|with_reducible exact⟨rfl,rfl⟩|with_reducible rfl) ?_;simp only[zvF];have gE:=yL a [J] (k*16+3) G;have bG:G.setCells a (k*16+3) [J]=G.setCell ⟨a,k*16+3,none⟩ (.int .i64 (J:Int)):=rfl;rw[bG]at ac gE;rw[PCs_open (by rw[ah.out,S14.openK_length,aS.out]) Hp.out Hy.out,←aV.out]at ac
    have ab:KepX (fun b=>b=a) wr (G.setCell ⟨a,k*16+3,none⟩ (.int .i64 (J:Int))):=
     ((KepX.below H).trans (KepX.row U (fun b e=>.inl (zI e).symm))).trans (KepX.row gE (fun b e=>.inl (zI e).symm))
    have aF:KepX (fun b=>X b∨b=a) v2 (G.setCell ⟨a,k*16+3,none⟩ (.int .i64 (J:Int))):=
     (KepX.row U (fun b e=>.inl (.inr (zI e).symm))).trans (KepX.row gE (fun b e=>.inl (.inr (zI e).symm)))
    obtain⟨vE,bc⟩:=zvJ (G.setCell ⟨a,k*16+3,none⟩ (.int .i64 (J:Int)));rw[bc]at ac gE ab aF;rw[bc];have aY:=m.kepX ab (show¬_=a by omega);have aP:=t.trans ab;refine⟨O _ aY aP,?_⟩
    have a6:PRobX (fun b=>X b∨b=a) {p with sb:=B,sd:=Z,slot:=(J:Nat)} {y with a2:=I,c2:=P} vE:=fun W hW=>by
     have aG:=a9.out k p y Hp.out Hy.out W ((ab.mono (fun b _ h=>.inr h)).trans hW)
     exact aG.opened (hT.kepX (aF.trans hW) (fun g o e=>by
      have s:=aX g o e;exact fun h=>h.elim (fun h=>by have:=bx.out g h;omega) (fun h=>by omega)))
    have ac:=zC ac
    have bs:=zC (show∀(j:Nat) (p':S14.P) (y':Lay),(S14.openK N (k+1))[j]? = some p'→(l.set k {y with a2:=I,c2:=P})[j]? = some y'→PRobX (fun b=>X b∨b=a) p' y' vE from fun j p' y' s q=>by
     rw[aV.out,List.getElem?_set]at s;rw[List.getElem?_set]at q;by_cases hj:k=j
     ·rw[zQ hj]at s q;split at s<;>split at q
      ·cases s;cases q;exact a6
      ·cases q
      ·cases s
      ·cases s
     ·rw[zG hj]at s q;exact(a9.out j p' y' s q).kep (ab.mono (fun b _ h=>.inr h)))
    have bB:=zC (show(l.set k {y with a2:=I,c2:=P}).length=d by rw[yH];exact ah.out);clear au zrY U t3 gE ab aF a6 a0 hT aX m t bf a4 H u M a7;refine zaT (hF _ _ (fun K hK=> ?_));clear hF hY;go_wp2_with fail;refine mok hK ?_;clear hK;go_wp2_with fail;go_roundw
    case rel=>exact⟨k+1,_,by omega,by simp,bB,aY,aP,ac,bs⟩
    case measure=>simp[intOf];omega
  ·obtain rfl:k=d:=by omega
   go_wp2;go_returns;refine⟨rfl,l,bE.out l,fun r q=> ?_,t.mono (fun b _ h=>by rw[h];rfl)⟩;have h:=bg.out k l wr t ah.out af.out ag.out r q;unfold S14.opened;rw[aQ.out];exact h
