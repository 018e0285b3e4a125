/- A part of the proof of L14n. No condition. -/
import Derived.Test.YtieeogndnhighaaGreatZL14nbp
import Derived.Test.YtieeogndnhighaaGreatZL14nbq
set_option linter.all false
set_option maxRecDepth 100000
set_option maxHeartbeats 20000000
namespace Go.Proofs.YtieeogndnhighaaGreat
open Go.RowKit
def zpV(w:World)(N N':S14.N):Prop:=∀(L:NLay) (W:World) (X:Nat→Prop),Below w.heap.size w W→(∀k,X k→k<W.heap.size)→(∀W2,KepX X W W2→NIs N L W2)→OwnP W w.heap.size L.a2 L.c2 N.parts L.ys→
 (∀(j:Nat) (p:S14.P) (y:Lay),N.parts[j]? = some p→L.ys[j]? = some y→PRobX (fun k=>X k∨(Value.slice L.a2 N.parts.length L.c2).ownBlock=some k) p y W)→
 (∀g,(Value.slice L.a2 N.parts.length L.c2).ownBlock=some g→¬X g)→
 (∀W2,KepX (fun k=>X k∨(Value.slice L.a2 N.parts.length L.c2).ownBlock=some k) W W2→Rd W2 L.a1 (zcS N.comps)∧Rd W2 L.a3 (zmF N.ctxs))→
 Calls Tryz.prog 46 #[NV N L] W fun e w'=>e = .returned (.tuple #[])∧∃ys,zbP N' {L with ys:=ys}=zbP N L∧(∀W2,KepX X w' W2→NIs N' {L with ys:=ys} W2)∧KepX (fun k=>(Value.slice L.a2 N.parts.length L.c2).ownBlock=some k) W w'
theorem zoG(w:World)(N:S14.N)(hl0:1≤N.comps.length)(hl:N.comps.length≤16)(hk6:∀c∈N.comps,0≤c.kind∧c.kind≤6)(hpl:N.parts.length=N.comps.length)(hxl:N.ctxs.length=16)(hp1:1≤N.part)(hp2:N.part≤255):zpV w N (S14.opened N):=by
 intro L w0 X hW hX hNI hOwn hRob hXg hR;obtain⟨a1,c1,a2,c2,a3,c3,ys0⟩:=L;obtain⟨g2,hg0,hg1,hg2,hg3,hg4⟩:=zcH hOwn (by omega);simp only at hg0;subst hg0;have hXn:¬X g2:=hXg g2 rfl;clear hXg;have hRob2:∀(j:Nat) (p:S14.P) (y:Lay),N.parts[j]? = some p→ys0[j]? = some y→PRobX (fun k=>X k∨k=g2) p y w0:=fun j p y h1 h2=>(hRob j p y h1 h2).change (fun k _ hk=>hk.elim .inl (fun e=>.inr (by rw[e];rfl)));have hR2:∀W2,KepX (fun k=>X k∨k=g2) w0 W2→Rd W2 a1 (zcS N.comps)∧Rd W2 a3 (zmF N.ctxs):=fun W2 h=>hR W2 (h.mono (fun k _ hk=>hk.elim .inl (fun e=>.inr (by rw[e];rfl))));have hR2':∀W2,KepX (fun k=>k=g2) w0 W2→Rd W2 a1 (zcS N.comps)∧Rd W2 a3 (zmF N.ctxs):=fun W2 h=>hR2 W2 (h.mono (fun k _ hk=>.inr hk));have h0:=hNI w0 (KepX.refl _ _);obtain⟨gC,oC,ha1,_⟩:=h0.rc (fun e=>by have h:=yQ List.length e;rw[yT,List.length_nil]at h;omega);simp only at ha1;subst ha1;obtain⟨pt,hpt⟩:∃n:Nat,N.part=(n:Int):=⟨N.part.toNat,by omega⟩;have hpt2:pt<4294967296:=by omega
 obtain⟨nc,hnc⟩:∃n,N.comps.length=n:=⟨_,rfl⟩;have hnp:N.parts.length=nc:=hpl.trans hnc
 have hIS:=zD fun(k:Nat) (ys:List Lay) (wr:World) (h1:KepX (fun k=>k=g2) w0 wr) (h2:ys.length=nc) (h3:wr.ownsRow w.heap.size 83 16 (.slice (some ⟨g2,0,none⟩) nc c2) nc (PCs (S14.openK N k) ys)) (h4:∀(j:Nat) (p:S14.P) (y:Lay),(S14.openK N k)[j]? = some p→ys[j]? = some y→PRobX (fun b=>X b∨b=g2) p y wr)=>
  opened_is (ps:=S14.openK N k) h0 hXn hR2 (S14.openK_length N k) hnp h1 h2 h3 (fun j p y e1 e2=>h4 j p y e1 e2)
 have hOwn2:w0.ownsRow w.heap.size 83 16 (.slice (some ⟨g2,0,none⟩) nc c2) nc (PCs N.parts ys0):=hnp▸hOwn;have hys0:ys0.length=nc:=h0.ly.trans hnp;have eV:NV N ⟨some ⟨gC,oC,none⟩,c1,some ⟨g2,0,none⟩,c2,a3,c3,ys0⟩ = .agg #[.slice (some ⟨gC,oC,none⟩) nc c1,.slice (some ⟨g2,0,none⟩) nc c2,.slice a3 16 c3,.int .i64 (pt:Int)]:=by
  unfold NV zbP;rw[hnc,hnp,hxl,hpt]
 rw[eV]
 have Hfin:=zD fun(ys:List Lay)=>(show zbP (S14.opened N) ⟨some ⟨gC,oC,none⟩,c1,some ⟨g2,0,none⟩,c2,a3,c3,ys⟩=zbP N ⟨some ⟨gC,oC,none⟩,c1,some ⟨g2,0,none⟩,c2,a3,c3,ys0⟩ by
  unfold zbP S14.opened;simp only[S14.openK_length])
 have Hk6:=zD hk6;have Hnc:=zD hnc;have Hnp:=zD hnp;have Hxl:=zD hxl;have Hpt:=zD hpt;have HXs:=zD hX;have HRx:=zD fun W2 h=>(hR2' W2 h).2;have HXg:=zD hXn;have hncl:nc≤16:=by omega
 obtain⟨W1,hW1⟩:∃W1,w0.alloc (.cells #[.slice (some ⟨gC,oC,none⟩) nc c1,.slice (some ⟨g2,0,none⟩) nc c2,.slice a3 16 c3,.int .i64 (pt:Int)] 26)=W1:=⟨_,rfl⟩;have k1:Blk W1 w0.heap.size [.slice (some ⟨gC,oC,none⟩) nc c1,.slice (some ⟨g2,0,none⟩) nc c2,.slice a3 16 c3,.int .i64 (pt:Int)] 26:=by rw[←hW1];exact Blk.new w0 _ _
 have B1:Below w0.heap.size w0 W1:=by rw[←hW1];exact(zG _ _).alloc (zE _) _
 have KX1:KepX (fun k=>k=g2) w0 W1:=KepX.below B1;have own1:=zD (yO (B:=0) hOwn2 B1);have rob1:=zD (show∀(j:Nat) (p:S14.P) (y:Lay),N.parts[j]? = some p→ys0[j]? = some y→PRobX (fun b=>X b∨b=g2) p y W1 from fun j p y h1 h2=>(hRob2 j p y h1 h2).kep (KepX.below B1));have hy1:=zD hys0;have c0:=k1.cell 0;simp only[lgz]at c0;clear hNI hOwn hRob hR hOwn2 hRob2 hR2 hR2' h0 hnc hnp hxl hpt hpl hl hl0 hk6 eV hX hXn hys0 hp1 hp2 B1;go_enter Tryz.func46,Tryz.ntmps46;go_wp2_with (rw[hW1]);clear c0
 go_loopw [2] (fun i wr=>∃(k:Nat) (ys:List Lay),k≤nc∧i = .int .i64 (k:Int)∧Hid (ys.length=nc)∧Blk wr w0.heap.size [.slice (some ⟨gC,oC,none⟩) nc c1,.slice (some ⟨g2,0,none⟩) nc c2,.slice a3 16 c3,.int .i64 (pt:Int)] 26∧KepX (fun b=>b=g2) w0 wr∧
  Hid (wr.ownsRow w.heap.size 83 16 (.slice (some ⟨g2,0,none⟩) nc c2) nc (PCs (S14.openK N k) ys))∧
  Hid (∀(j:Nat) (p:S14.P) (y:Lay),(S14.openK N k)[j]? = some p→ys[j]? = some y→PRobX (fun b=>X b∨b=g2) p y wr)) (fun i _=>nc-(intOf i).toNat)
 case atStart=>exact⟨0,ys0,by omega,rfl,hy1,k1,KX1,own1,rob1⟩
 case round=>
  clear k1 KX1 hW1 own1 rob1 hy1;obtain⟨k,ys,hk,rfl,hys,k1,hKX,hown,hrob⟩:=hrel;have hzr:=hKX.size;have n0:wr.cell? ⟨w0.heap.size,0,none⟩=some (.slice (some ⟨gC,oC,none⟩) nc c1):=k1.cell 0;have n1:wr.cell? ⟨w0.heap.size,1,none⟩=some (.slice (some ⟨g2,0,none⟩) nc c2):=k1.cell 1;have n2:wr.cell? ⟨w0.heap.size,2,none⟩=some (.slice a3 16 c3):=k1.cell 2;have n3:wr.cell? ⟨w0.heap.size,3,none⟩=some (.int .i64 (pt:Int)):=k1.cell 3;by_cases hlt:k<nc
  ·have hkz:(k:Int)<(nc:Int):=by omega
   obtain⟨x,hx⟩:∃x,N.comps[k]? = some x:=⟨_,zI (by have:=Hnc.out;omega)⟩;have hNr:=hIS.out k ys wr hKX hys.out hown.out hrob.out wr (KepX.refl _ _);obtain⟨g',o',hga,x0,x1,x2,x3,x4,x5⟩:=hNr.comp_at hx;cases hga;have hkd:=Hk6.out x (yN hx);have HNr:=zD hNr;have Hx:=zD hx;clear hNr hx x1 x2 x3 x4 x5;by_cases k2':x.kind=2
   rotate_left
   ·have hk2b:(x.kind==2)=false:=by simpa using k2'
    have hop:=zD (S14.openK_plain Hx.out k2');clear hkd;go_wp2;go_roundw
    case rel=>exact⟨k+1,ys,by omega,by simp,hys,k1,hKX,hop.out.symm▸hown,hop.out.symm▸hrob⟩
    case measure=>simp[intOf];omega
   have hk2b:(x.kind==2)=true:=by simpa using k2'
   have hN2:=HNr.out;obtain⟨g',o',p,y,hga,hp,hy,hcs,hP⟩:=hN2.part_at (k:=k) (by show k<(S14.openK N k).length;rw[S14.openK_length,Hnp.out];exact hlt);cases hga;have hp:(S14.openK N k)[k]? = some p:=hp;have hy:ys[k]? = some y:=hy;have hop:=S14.openK_hist hp Hx.out k2';unfold S14.open1 at hop;have hptn:N.part.toNat=pt:=by rw[Hpt.out];rfl
   rw[hptn]at hop;have hhl:=S14.hash_lt (N.ctxs.getD k 0) pt;obtain⟨b3,o3,ha3,hcx,hcl⟩:=hN2.ctx_at (k:=k) (by show k<N.ctxs.length;rw[Hxl.out];omega);have ha3:a3=some ⟨b3,o3,none⟩:=ha3;subst ha3;have hcx:wr.cell? ⟨b3,o3+k,none⟩=some (.int .u32 (N.ctxs.getD k 0:Nat)):=hcx;have hcl:N.ctxs.getD k 0<4294967296:=hcl;have HVh:=fun W=>rhash14_any (N.ctxs.getD k 0) pt hcl hpt2 W;obtain⟨hv,hhv⟩:∃h,S14.hash (N.ctxs.getD k 0) pt=h:=⟨_,rfl⟩;rw[hhv]at HVh hop hhl;have HOP:=fun(W:World) (hW:Below wr.heap.size wr W)=>ropen10_any p.sb p.sd hv hhl y.a2 y.c2 W (hP.tab.step hW);have Hok:=zD (OK8.openX hP.tab.ok p.sb hv hhl);obtain⟨B,hB⟩:∃B,S10.openB p.sb p.sd=B:=⟨_,rfl⟩;obtain⟨XX,hXX⟩:∃B,S10.openX p.sb p.sd hv=B:=⟨_,rfl⟩;obtain⟨NN,hNN⟩:∃B,S10.openN p.sb p.sd hv=B:=⟨_,rfl⟩;obtain⟨EE,hEE⟩:∃B,S10.check p.sb p.sd=B:=⟨_,rfl⟩;rw[hB,hXX,hNN]at hop;simp only[hB,hXX,hNN,hEE]at HOP;rw[hXX]at Hok;unfold zdY at HOP;have q1:=hcs 1 _ rfl;have q2:=hcs 2 _ rfl;have q3:=hcs 3 _ rfl;simp only[yV]at q1 q2 q3;obtain⟨sb,hsb⟩:∃x,p.sb=x:=⟨_,rfl⟩;obtain⟨sl,hsl⟩:∃x,p.sd.length=x:=⟨_,rfl⟩;rw[hsb]at q1;rw[hsl]at q2;simp only[hsb,hsl]at HOP;have own2:=hown;have rob2:=hrob;have HVH:=zD HVh;have HOp:=zD HOP;have Hop:=zD hop;have Hp:=zD hp;have Hy:=zD hy;obtain⟨cx,hcxe⟩:∃c,N.ctxs.getD k 0=c:=⟨_,rfl⟩;rw[hcxe]at hcx HVH
   have hSof:∀W,Blk W w0.heap.size [.slice (some ⟨gC,oC,none⟩) nc c1,.slice (some ⟨g2,0,none⟩) nc c2,.slice (some ⟨b3,o3,none⟩) 16 c3,.int .i64 (pt:Int)] 26→KepX (fun b=>b=g2) w0 W→zbF [(⟨w0.heap.size,0,none⟩,.slice (some ⟨gC,oC,none⟩) nc c1),(⟨w0.heap.size,1,none⟩,.slice (some ⟨g2,0,none⟩) nc c2),(⟨w0.heap.size,2,none⟩,.slice (some ⟨b3,o3,none⟩) 16 c3),(⟨w0.heap.size,3,none⟩,.int .i64 (pt:Int)),(⟨b3,o3+k,none⟩,.int .u32 (cx:Int))] W:=fun W h hk=>by
    obtain⟨b',o',e,hc⟩:=(HRx.out W hk).at (i:=k) (by rw[zbV,Hxl.out];omega);cases e;refine⟨h.cell 0,h.cell 1,h.cell 2,h.cell 3,?_,yJ⟩;have h2:=hc k (by rw[zbV,Hxl.out];omega);rw[h2,←hcxe];rw[zY,zI (by rw[Hxl.out];omega)];simp[zmF]
   have hk16:k<16:=by omega
   have hk16z:(k:Int)<16:=by omega
   clear k2' hkd hN2 hcs hP hop hp hy hB hXX hNN hEE hsb hsl HVh HOP hhv hhl hptn hown hrob HNr hcl;go_wp2_with fail;refine zbM 25 0 (.read 0 (.read 1 (.read 2 (.read 3 (.read 4 (.read 6 (.read 7 (.read 8 (.read 9 (.read 10 (.read 11 (.read 12 (.two (.one 5 (.one 13 (.one 14 (.read 15 (.read 16 (.read 17 (.read 18 (.read 19 (.read 20 (.one 21 (.read 22 (.read 23 (.one 24 .done))))))))))))) (.one 13 (.one 5 (.one 14 (.read 15 (.read 16 (.read 17 (.read 18 (.read 19 (.read 20 (.one 21 (.read 22 (.read 23 (.one 24 .done)))))))))))))))))))))))))) _ _ o0P (zbF [(⟨w0.heap.size,0,none⟩,.slice (some ⟨gC,oC,none⟩) nc c1),(⟨w0.heap.size,1,none⟩,.slice (some ⟨g2,0,none⟩) nc c2),(⟨w0.heap.size,2,none⟩,.slice (some ⟨b3,o3,none⟩) 16 c3),(⟨w0.heap.size,3,none⟩,.int .i64 (pt:Int)),(⟨b3,o3+k,none⟩,.int .u32 (cx:Int))]) (by kernel_rfl) (zaF 25 _).symm (by kernel_rfl) (by kernel_rfl) (by kernel_rfl) (by kernel_rfl) (hSof _ (k1.step (zG _ _).drew) (hKX.trans (KepX.below (zG _ _).drew))) (fun Y Q4 F4 hY hF=> ?_);simp only[Plan.map,ltc,ltz,ldc,ldz,List.getD_cons_zero,List.getD_cons_succ]
   repeat
    apply zV (by rw[hY];rfl)
    ·intro w2 hS2;(try simp only[Keeps,zbF,Cells]at hS2);go_simp;with_reducible rfl
    simp only[zrB]
   have hbv0:Below wr.heap.size wr wr.drew:=(zG _ _).drew;obtain⟨v0,hv0⟩:∃v,wr.drew=v:=⟨_,rfl⟩;rw[hv0]at hbv0⊢;have q10:=(hbv0.cell (zJ q1)).trans q1;have q20:=(hbv0.cell (zJ q2)).trans q2;refine zaG ?_ ?_;refine yI (by rw[hY];rfl) (by go_simp;first|with_reducible exact⟨rfl,rfl⟩|with_reducible rfl) (hSof _ (k1.step hbv0) (hKX.trans (KepX.below hbv0))) ?_;simp only[zrB];apply yH (by rw[hY];rfl)
   ·go_simp;with_reducible exact⟨rfl,rfl⟩
   refine(HVH.out _).mono ?_;rintro e v1 ⟨rfl,hbv10⟩;have hbv1:=zA hbv0 hbv10;refine⟨_,rfl,hSof _ (k1.step hbv1) (hKX.trans (KepX.below hbv1)),?_⟩;simp only[zrB]
   rotate_left
   apply yH (by rw[hY];rfl)
   ·go_simp;with_reducible exact⟨rfl,rfl⟩
   refine(HVH.out _).mono ?_;rintro e v1 ⟨rfl,hbv10⟩;have hbv1:=zA hbv0 hbv10;refine⟨_,rfl,hSof _ (k1.step hbv1) (hKX.trans (KepX.below hbv1)),?_⟩;simp only[zrB];have q11:=(hbv1.cell (zJ q1)).trans q1;have q21:=(hbv1.cell (zJ q2)).trans q2;refine yI (by rw[hY];rfl) (by go_simp;first|with_reducible exact⟨rfl,rfl⟩|with_reducible rfl) (hSof _ (k1.step hbv1) (hKX.trans (KepX.below hbv1))) ?_;simp only[zrB];clear q11 q21
   all_goals
    skip
    apply yH (by rw[hY];rfl)
    ·go_simp;with_reducible exact⟨rfl,rfl⟩
    refine(HOp.out _ hbv1).mono ?_;rintro e v2 ⟨V,rfl,TOv,hbv20⟩;have hbv2:=zA hbv1 hbv20;obtain⟨aT,cT,rfl,hT,hF8⟩:=TOv.open Hok.out;have hsz1:=hbv1.size;unfold zdY;refine⟨_,rfl,hSof _ (k1.step hbv2) (hKX.trans (KepX.below hbv2)),?_⟩;simp only[zrB]
    repeat
     apply zV (by rw[hY];rfl)
     ·intro w2 hS2;(try simp only[Keeps,zbF,Cells]at hS2);go_simp;with_reducible rfl
     simp only[zrB]
    have own3:=yO (B:=0) own2.out hbv2;refine ziF 75 (.tmp 42) (.tmp 38) (by rfl) (by rw[hY];rfl) g2 (k*16+1) #[.int .i64 B,.slice aT XX.length cT] (by rfl) (by rfl) (zdD own3 (by show k*16+1+2≤nc*16;omega)) info_Sl14 (by simp[Value.oneCell']) ?_;obtain⟨vS,hvS⟩:∃W,v2.setCells g2 (k*16+1) (#[.int .i64 B,.slice aT XX.length cT]:Array Value).toList=W:=⟨_,rfl⟩;rw[hvS];have ownS:=zgD own3 (o:=k*16+1) (vs:=[.int .i64 B,.slice aT XX.length cT]) (by show k*16+1+2≤nc*16;omega);have gS:=zaD g2 [.int .i64 B,.slice aT XX.length cT] (k*16+1) v2;have s3:vS.cell? ⟨g2,k*16+3,none⟩=some (.int .i64 p.slot):=by
     rw[←hvS];exact(World.cell?_setCells_out g2 _ _ v2 _ (fun _ _=>.inr (by show k*16+1+2≤k*16+3;omega))).trans (hbv2.cell (zJ q3) |>.trans q3)
    have hvS':v2.setCells g2 (k*16+1) [.int .i64 B,.slice aT XX.length cT]=vS:=hvS;rw[hvS']at ownS gS;have t3:=zdD ownS (o:=k*16+3) (k:=1) (by omega);have f3:vS.frozen? ⟨g2,k*16+3,none⟩=false:=(t3 0 (by omega)).2;have ownE:=zgD ownS (o:=k*16+3) (vs:=[.int .i64 (NN:Int)]) (by show k*16+3+1≤nc*16;omega);have kS12:=(k1.step hbv2).kepX (KepX.row (X:=fun b=>b=g2) gS (fun b e=>.inl (zO e).symm)) (show¬_=g2 by omega);refine⟨hSof _ kS12 ((hKX.trans (KepX.below hbv2)).trans (KepX.row gS (fun b e=>.inl (zO e).symm))),?_⟩;simp only[zrB]
    repeat
     apply zV (by rw[hY];rfl)
     ·intro w2 hS2;(try simp only[Keeps,zbF,Cells]at hS2);go_simp;with_reducible rfl
     simp only[zrB]
    refine ziE (by rw[hY];rfl) (by go_simp;first|with_reducible exact⟨rfl,rfl⟩|with_reducible rfl) ?_;simp only[zrB];have gE:=zaD g2 [.int .i64 (NN:Int)] (k*16+3) vS;have hsE:vS.setCells g2 (k*16+3) [.int .i64 (NN:Int)]=vS.setCell ⟨g2,k*16+3,none⟩ (.int .i64 (NN:Int)):=rfl;rw[hsE]at ownE gE;rw[PCs_open (by rw[hys.out,S14.openK_length,Hnp.out]) Hp.out Hy.out,←Hop.out]at ownE
    have hKE:KepX (fun b=>b=g2) wr (vS.setCell ⟨g2,k*16+3,none⟩ (.int .i64 (NN:Int))):=
     ((KepX.below hbv2).trans (KepX.row gS (fun b e=>.inl (zO e).symm))).trans (KepX.row gE (fun b e=>.inl (zO e).symm))
    have hKF:KepX (fun b=>X b∨b=g2) v2 (vS.setCell ⟨g2,k*16+3,none⟩ (.int .i64 (NN:Int))):=
     (KepX.row gS (fun b e=>.inl (.inr (zO e).symm))).trans (KepX.row gE (fun b e=>.inl (.inr (zO e).symm)))
    obtain⟨vE,hvE⟩:∃W,vS.setCell ⟨g2,k*16+3,none⟩ (.int .i64 (NN:Int))=W:=⟨_,rfl⟩;rw[hvE]at ownE gE hKE hKF;rw[hvE];have k1E:=k1.kepX hKE (show¬_=g2 by omega);have KXE:=hKX.trans hKE;refine⟨hSof _ k1E KXE,?_⟩
    have hE':PRobX (fun b=>X b∨b=g2) {p with sb:=B,sd:=XX,slot:=(NN:Nat)} {y with a2:=aT,c2:=cT} vE:=fun W hW=>by
     have hp2:=rob2.out k p y Hp.out Hy.out W ((hKE.mono (fun b _ h=>.inr h)).trans hW)
     exact hp2.opened (hT.kepX (hKF.trans hW) (fun g o e=>by
      have h1:=hF8 g o e;exact fun h=>h.elim (fun h=>by have:=HXs.out g h;omega) (fun h=>by omega)))
    have ownE:=zD ownE
    have robE:=zD (show∀(j:Nat) (p':S14.P) (y':Lay),(S14.openK N (k+1))[j]? = some p'→(ys.set k {y with a2:=aT,c2:=cT})[j]? = some y'→PRobX (fun b=>X b∨b=g2) p' y' vE from fun j p' y' h1 h2=>by
     rw[Hop.out,List.getElem?_set]at h1;rw[List.getElem?_set]at h2;by_cases hj:k=j
     ·rw[zU hj]at h1 h2;split at h1<;>split at h2
      ·cases h1;cases h2;exact hE'
      ·cases h2
      ·cases h1
      ·cases h1
     ·rw[zK hj]at h1 h2;exact(rob2.out j p' y' h1 h2).kep (hKE.mono (fun b _ h=>.inr h)))
    have hysE:=zD (show(ys.set k {y with a2:=aT,c2:=cT}).length=nc by rw[zdT];exact hys.out);clear own3 ownS gS t3 gE hKE hKF hE' TOv hT hF8 k1 hKX hbv20 hbv10 hbv2 hbv1 hbv0 kS12;refine yS (hF _ _ (fun K hK=> ?_));clear hF hY;go_wp2_with fail;refine OnlyK.mk (hK.out _ _ ?_);clear hK;go_wp2_with fail;go_roundw
    case rel=>exact⟨k+1,_,by omega,by simp,hysE,k1E,KXE,ownE,robE⟩
    case measure=>simp[intOf];omega
  ·obtain rfl:k=nc:=by omega
   go_wp2;go_returns;refine⟨rfl,ys,Hfin.out ys,fun W2 h2=> ?_,hKX.mono (fun b _ h=>by rw[h];rfl)⟩;have h:=hIS.out k ys wr hKX hys.out hown.out hrob.out W2 h2;unfold S14.opened;rw[Hnc.out];exact h
