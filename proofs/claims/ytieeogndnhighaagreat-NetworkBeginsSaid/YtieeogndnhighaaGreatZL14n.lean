/- A part of the proof of L14n. No condition. -/
import Derived.Test.YtieeogndnhighaaGreatZL14nbv
import Derived.Test.YtieeogndnhighaaGreatZL14nbx
import Derived.Test.YtieeogndnhighaaGreatZL14nby
import Derived.Test.YtieeogndnhighaaGreatZL14nca
set_option linter.all false
set_option maxRecDepth 100000
set_option maxHeartbeats 4000000
namespace Go.Proofs.YtieeogndnhighaaGreat
open Go.RowKit
theorem GoodN.ctrs{N:S14.N}{t:Nat}(h:GoodN N t):∀p∈N.parts,p.ctrs.length≤100000∧p.m.ctrs.length≤100000:=fun p hp=>by
 obtain⟨k,hk,rfl⟩:=List.getElem_of_mem hp;have hkc:k<N.comps.length:=by rw[←h.len];exact hk
 have hc:N.comps[k]? = some N.comps[k]:=zI hkc;have hG:=h.ps k _ _ hc (zI hk);have hi:=S14.ok_is ((S14.check_zero h.check).2.2 k _ hc);have hr:=hG.right;generalize N.comps[k]=c at *;generalize N.parts[k]=p at *;have hp16:=zdP (n:=c.bits.toNat) (by have:=hi.bits;omega);rcases hi.kind with hk|hk|hk|hk|hk|hk|hk
 ·obtain⟨h1,_,_,_,_,_,h7⟩:=zcK ((zfH (.inl hk)).1 hr);rw[h1,h7];decide
 ·obtain⟨hb,ho⟩:=(zlE hk).1 hr;obtain⟨_,_,_,_,_,_,h7⟩:=zcK hb;have h1:=(okCtrs_iff.1 ho).1;have h7:p.m.ctrs = []:=h7;rw[h1,h7];exact⟨by omega,by decide⟩
 ·obtain⟨⟨⟨⟨ho,_⟩,_⟩,_⟩,hb⟩:=(zgU hk).1 hr;obtain⟨_,_,_,_,_,_,h7⟩:=zcK hb;have h1:=(okCtrs_iff.1 ho).1;have h7:p.m.ctrs = []:=h7;rw[h1,h7];decide
 ·obtain⟨⟨⟨⟨hb,_⟩,_⟩,_⟩,hm⟩:=(zmU hk).1 hr;obtain⟨h1,_⟩:=zcK hb;have h1:p.ctrs = []:=h1;have h7:=((S12.check_iff p.m).1 hm).ctrs;rw[h1];exact⟨by decide,by omega⟩
 ·obtain⟨h1,_,_,_,_,_,h7⟩:=zcK ((zfH (.inr hk)).1 hr);rw[h1,h7];decide
 ·obtain⟨h1,_,_,_,_,_,h7⟩:=zcK ((right_mix hk).1 hr).1.1.1;have h1:p.ctrs = []:=h1;have h7:p.m.ctrs = []:=h7;rw[h1,h7];decide
 ·obtain⟨h1,_,_,_,_,_,h7⟩:=zcK ((zlD hk).1 hr).1.1;have h1:p.ctrs = []:=h1;have h7:p.m.ctrs = []:=h7;rw[h1,h7];decide
theorem rnew14_bad(l:List S14.C)(a:Option Addr)(cap:Nat)(w:World)(hl:l.length≤4611686018427387904)(hrd:Rd w a (zcS l))(hck:S14.check l≠0) :
 Calls Tryz.prog 16 #[.slice a l.length cap] w fun e w'=>e = .returned (.tuple #[NV S14.N0 NLay0,.int .i64 (S14.check l)])∧Below w.heap.size w w':=by
 have HC:=zD fun(W:World) (hW:Below w.heap.size w W)=>zgH l a cap W hl (hrd.step hW);obtain⟨R,hR⟩:∃R,S14.check l=R:=⟨_,rfl⟩;rw[hR]at HC hck⊢;obtain⟨nc,hnc⟩:∃n,l.length=n:=⟨_,rfl⟩;rw[hnc]at HC;rw[hnc];clear hrd hnc hl hR;have hck2:(R != 0)=true:=by simpa using hck
 obtain⟨W1,hW1⟩:∃W1,w.alloc (.cells #[.slice none 0 0,.slice none 0 0,.slice none 0 0,.int .i64 0] 26)=W1:=⟨_,rfl⟩;have k1:Blk W1 w.heap.size [.slice none 0 0,.slice none 0 0,.slice none 0 0,.int .i64 0] 26:=by rw[←hW1];exact Blk.new w _ _
 have B1:Below w.heap.size w W1:=by rw[←hW1];exact(zG _ _).alloc (zE _) _
 go_enter Tryz.func16,Tryz.ntmps16;go_wp2_with (rw[hW1]);refine(HC.out _ B1).mono ?_;rintro e w2 ⟨rfl,hb2⟩;have k2:=k1.step hb2;have B2:=zA B1 hb2;clear k1 B1 hb2 hW1;go_wp2_with (first
  | (refine yE 26 (.tmp 2) (.tmp 11) (by rfl) (by rfl) w.heap.size (by rfl) [.slice none 0 0,.slice none 0 0,.slice none 0 0,.int .i64 0] (by rfl) _ 26 k2 info_N rfl (by simp[Value.oneCell']) ?_;intro wM EM gM sM))
 have hL:=run_loadVar_mid wM _ 0 _ _ _ EM.cells Tryz.underlying26 rfl info_N;refine bodyPost_ret (v:=.tuple #[.agg #[.slice none 0 0,.slice none 0 0,.slice none 0 0,.int .i64 0],.int .i64 R]) ?_ rfl ?_
 ·exact zaX (show Tryz.f16.results = #[.cell 2 26,.tmp 3]from rfl) (p:=⟨w.heap.size,0,none⟩) rfl rfl hL
 ·exact⟨rfl,B2.trans (yB gM (zE _) B2.size)⟩
def Gives14(f:FuncId)(args:Array Value)(M:S14.N)(e:Int)(W:World):Prop:=Calls Tryz.prog f args W fun r w'=>∃L,r = .returned (.tuple #[NV M L,.int .i64 e])∧(∀W',Below w'.heap.size w' W'→NIs M L W')∧Below W.heap.size W w'
theorem begins14(l:List S14.C)(hl:l.length≤40):∃(M:S14.N) (e:Int),M.comps.length≤100000∧M.ctxs.length≤100000∧(∀p∈M.parts,p.ctrs.length≤100000∧p.m.ctrs.length≤100000)∧
 ∀(a:Option Addr) (cap:Nat) (W:World),Rd W a (zcS l)→Gives14 15 #[.slice a l.length cap] M e W∧Gives14 16 #[.slice a l.length cap] M e W:=by
 by_cases hck:S14.check l=0
 ·have hg:=GoodN.new hck;have hgo:=hg.open_;have hz:=S14.check_zero hg.check;refine⟨S14.opened (S14.newN l),0,?_,?_,hgo.ctrs,fun a cap W hrd=>⟨?_,?_⟩⟩
  ·show l.length≤_;omega
  ·rw[hgo.xl];decide
  ·refine(new_all hck a cap W hrd).mono ?_;rintro e w' ⟨VS,rfl,⟨L,rfl,hN⟩,hb⟩;exact⟨L,rfl,fun W' h=>hN W' (KepX.below h),hb⟩
  ·refine(rnew14_good l S14.freshA (S14.opened (S14.newN l)) a cap W hrd hck (fun k c hc W2=> ?_) ?_).mono ?_
   ·have hk:=(List.getElem?_eq_some_iff.1 hc).1;exact rmake14_any c (k:Int) ((S14.check_zero hck).2.2 k c hc) (by have:=(S14.check_zero hck).2.1;omega) W2
   ·exact zoG W _ hz.1 hz.2.1 (S14.kinds_of hg.check) hg.len hg.xl hg.pt.1 hg.pt.2
   ·rintro e w' ⟨L,rfl,hN,hb⟩;exact⟨L,rfl,fun W' h=>hN W' (KepX.below h),hb⟩
 ·refine⟨S14.N0,S14.check l,by decide,by decide,fun p hp=>(by cases hp),fun a cap W hrd=>⟨?_,?_⟩⟩
  ·refine(new14_bad l a cap W (by omega) hrd hck).mono ?_;rintro e w' ⟨rfl,hb⟩;exact⟨NLay0,rfl,fun W' _=>NIs.zero W',hb⟩
  ·refine(rnew14_bad l a cap W (by omega) hrd hck).mono ?_;rintro e w' ⟨rfl,hb⟩;exact⟨NLay0,rfl,fun W' _=>NIs.zero W',hb⟩
theorem small_nis14{N:S14.N}{L:NLay}{w:World}(hN:NRaw N L w)(hs:S14.small N):NIs N L w∧N.comps.length≤40∧∀p∈N.parts,p.ctrs.length≤9223372036854775807:=by
 refine⟨hN.nis (fun p hp=> ?_),(S14.fewC_iff.1 hs.1).1,fun p hp=> ?_⟩
 all_goals
  have h:=hs.2.2.2 p hp;unfold S14.big at h;simp only[not_or]at h;omega
theorem zjU(l:List S14.C)(a:Option Addr)(cap:Nat)(N:S14.N)(L:NLay)(w:World)(hrd:Rd w a (zcS l))(hN:NRaw N L w) :
 Calls Tryz.prog 3 #[.slice a l.length cap,NV N L] w fun e w'=>e = .returned (.bool true)∧Below w.heap.size w w':=by
 have HA:=zD fun W=>awake14_any W;have HVl:=zD (show some 4=some (zbP N L).length from rfl);have HFc:=zD fun(W:World) (hW:Below w.heap.size w W)=>zpL l a cap W (hrd.step hW);obtain⟨fc,hfc⟩:∃b,S14.fewC l=b:=⟨_,rfl⟩;rw[hfc]at HFc;cases fc with
 | false=>
   unfold NV at *;obtain⟨VN,hVN⟩:∃v,zbP N L=v:=⟨_,rfl⟩;rw[hVN]at HVl⊢;obtain⟨n,hn⟩:∃n,l.length=n:=⟨_,rfl⟩;rw[hn]at HFc⊢;obtain⟨W1,hW1⟩:∃W1,w.alloc (.cells VN.toArray 26)=W1:=⟨_,rfl⟩;have B1:Below w.heap.size w W1:=by rw[←hW1];exact(zG _ _).alloc (zE _) _
   clear hfc hN hVN hn hrd;go_enter Tryz.func3,Tryz.ntmps3;go_wp2_with (rw[hW1]);refine(HFc.out _ B1).mono ?_;rintro e w2 ⟨rfl,hb2⟩;have B2:=zA B1 hb2;go_wp2_with fail;refine(HA.out _).mono ?_;rintro e w3 ⟨rfl,hb3⟩;go_wp2;go_returns;exact⟨rfl,zA B2 hb3⟩
 | true=>
   have hl40:=(S14.fewC_iff.1 hfc).1;obtain⟨M,er,hM1,hM3,hMc,hG⟩:=begins14 l hl40;by_cases hs:S14.small N
   ·have HF:=zD fun(W:World) (hW:Below w.heap.size w W)=>few14_any N L W (hN.step hW) true (by simp[hs]);obtain⟨hNI,hn40,hlc⟩:=small_nis14 hN hs;have HK:=zD fun(W:World) (hW:Below w.heap.size w W)=>zhN N L W (hNI.step hW) (by omega) (right_all N L W (hNI.step hW));have HR:=zD fun(W:World) (hW:Below w.heap.size w W)=>znC N L W (hNI.step hW) (by omega) hlc;have HG1:=zD fun(W:World) (hW:Below w.heap.size w W)=>(hG a cap W (hrd.step hW)).1;have HG2:=zD fun(W:World) (hW:Below w.heap.size w W)=>(hG a cap W (hrd.step hW)).2;have HS:=zD fun(L1 L2:NLay) (W:World) (h1:NIs M L1 W) (h2:NIs M L2 W)=>rsame14_eq M L1 L2 W h1 h2 hM1 hM3 hMc;obtain⟨ck,hck⟩:∃x,S14.checkNet N=x:=⟨_,rfl⟩;rw[hck]at HK HR;unfold NV zbP at *;unfold Gives14 NV zbP at HG1 HG2;obtain⟨n,hn⟩:∃n,l.length=n:=⟨_,rfl⟩;obtain⟨nc,hnc⟩:∃n,N.comps.length=n:=⟨_,rfl⟩;obtain⟨np,hnp⟩:∃n,N.parts.length=n:=⟨_,rfl⟩;obtain⟨nx,hnx⟩:∃n,N.ctxs.length=n:=⟨_,rfl⟩;obtain⟨pt,hpt⟩:∃n,N.part=n:=⟨_,rfl⟩;obtain⟨mc,hmc⟩:∃n,M.comps.length=n:=⟨_,rfl⟩;obtain⟨mp,hmp⟩:∃n,M.parts.length=n:=⟨_,rfl⟩;obtain⟨mx,hmx⟩:∃n,M.ctxs.length=n:=⟨_,rfl⟩;obtain⟨mt,hmt⟩:∃n,M.part=n:=⟨_,rfl⟩;rw[hn]at HFc HG1 HG2⊢;simp only[hnc,hnp,hnx,hpt]at HF HK HR;rw[hnc,hnp,hnx,hpt];simp only[hmc,hmp,hmx,hmt]at HG1 HG2 HS;obtain⟨W1,hW1⟩:∃W1,w.alloc (.cells #[.slice L.a1 nc L.c1,.slice L.a2 np L.c2,.slice L.a3 nx L.c3,.int .i64 pt] 26)=W1:=⟨_,rfl⟩;have k1:Blk W1 w.heap.size [.slice L.a1 nc L.c1,.slice L.a2 np L.c2,.slice L.a3 nx L.c3,.int .i64 pt] 26:=by rw[←hW1];exact Blk.new w _ _
    have B1:Below w.heap.size w W1:=by rw[←hW1];exact(zG _ _).alloc (zE _) _
    clear HVl hs hN hNI hn40 hlc hn hnc hnp hnx hpt hmc hmp hmx hmt hck hG hfc hl40 hM1 hM3 hMc hrd;go_enter Tryz.func3,Tryz.ntmps3;go_wp2_with (rw[hW1]);refine(HFc.out _ B1).mono ?_;rintro e w2 ⟨rfl,hb2⟩;have B2:=zA B1 hb2;have k2:=k1.step hb2;clear k1 B1 hb2 hW1;go_wp2_with (first
     | (refine zbJ 26 (.tmp 3) (by rfl) (by rfl) w.heap.size 0 (by rfl) [.slice L.a1 nc L.c1,.slice L.a2 np L.c2,.slice L.a3 nx L.c3,.int .i64 pt] k2.cells _ Tryz.underlying26 rfl info_N ?_))
    refine(HF.out _ B2).mono ?_;rintro e w3 ⟨rfl,hb3⟩;have B3:=zA B2 hb3;have k3:=k2.step hb3;clear k2 B2 hb3;go_wp2_with fail;refine(HG1.out _ B3).mono ?_;rintro e w4 ⟨L4,rfl,hN4,hb4⟩;have B4:=zA B3 hb4;have k4:=k3.step hb4;clear k3 B3 hb4;obtain⟨b5,hb5⟩:∃b,w4.heap.size=b:=⟨_,rfl⟩;obtain⟨W5,hW5⟩:∃W,w4.alloc (.cells #[.slice none 0 0,.slice none 0 0,.slice none 0 0,.int .i64 0] 26)=W:=⟨_,rfl⟩;have q5:Blk W5 b5 [.slice none 0 0,.slice none 0 0,.slice none 0 0,.int .i64 0] 26:=by rw[←hW5,←hb5];exact Blk.new w4 _ _
    have hba5:Below w4.heap.size w4 W5:=by rw[←hW5];exact(zG _ _).alloc (zE _) _
    have k5:=k4.step hba5;have hz5:w4.heap.size≤b5:=by omega
    have hwb5:w.heap.size<b5:=by rw[←hb5];exact k4.lt
    have B5:=zA B4 hba5;clear B4 k4;go_wp2_with (first
     | (rw[hW5,hb5])
     | (rw[hW5])
     | (refine yE 26 (.tmp 5) (.tmp 21) (by rfl) (by rfl) b5 (by rfl) [.slice L4.a1 mc L4.c1,.slice L4.a2 mp L4.c2,.slice L4.a3 mx L4.c3,.int .i64 mt] (by rfl) _ 26 q5 info_N rfl (by simp[Value.oneCell']) ?_;intro w6 q6 g6 s6;clear s6;have k6:=k5.keptRow g6 (by intro e;have:=zO e;omega);have B6:=B5.trans (yB g6 (by omega) B5.size);have hN6:∀W',Below w6.heap.size w6 W'→NIs M L4 W':=fun W' h=>hN4 W' ((hba5.trans (yB g6 hz5 hba5.size)).trans (h.mono (hba5.trans (yB g6 hz5 hba5.size)).size));clear k5 B5 hba5 g6))
    clear hN4 hW5 hb5 q5;refine(HG2.out _ B6).mono ?_;rintro e w7 ⟨L7,rfl,hN7,hb7⟩;have B7:=zA B6 hb7;have k7:=k6.step hb7;have q7:=q6.step hb7;have hN67:∀W',Below w7.heap.size w7 W'→NIs M L4 W':=fun W' h=>hN6 W' (zA hb7 h);clear k6 B6 hb7 hN6 q6;obtain⟨b8,hb8⟩:∃b,w7.heap.size=b:=⟨_,rfl⟩;obtain⟨W8,hW8⟩:∃W,w7.alloc (.cells #[.slice none 0 0,.slice none 0 0,.slice none 0 0,.int .i64 0] 26)=W:=⟨_,rfl⟩;have q8:Blk W8 b8 [.slice none 0 0,.slice none 0 0,.slice none 0 0,.int .i64 0] 26:=by rw[←hW8,←hb8];exact Blk.new w7 _ _
    have hba8:Below w7.heap.size w7 W8:=by rw[←hW8];exact(zG _ _).alloc (zE _) _
    have k8:=k7.step hba8;have q58:=q7.step hba8;have hz8:w7.heap.size≤b8:=by omega
    have hb58:b5<b8:=by rw[←hb8];exact q7.lt
    have B8:=zA B7 hba8;clear B7 k7 q7;go_wp2_with (first
     | (rw[hW8,hb8])
     | (rw[hW8])
     | (refine yE 26 (.tmp 7) (.tmp 26) (by rfl) (by rfl) b8 (by rfl) [.slice L7.a1 mc L7.c1,.slice L7.a2 mp L7.c2,.slice L7.a3 mx L7.c3,.int .i64 mt] (by rfl) _ 26 q8 info_N rfl (by simp[Value.oneCell']) ?_;intro w9 q9 g9 s9;clear s9;have k9:=k8.keptRow g9 (by intro e;have:=zO e;omega);have q59:=q58.keptRow g9 (by intro e;have:=zO e;omega);have B9:=B8.trans (yB g9 (by omega) B8.size);have hb79:=hba8.trans (yB g9 hz8 hba8.size);have HNa:=zD (fun W' (h:Below w9.heap.size w9 W')=>hN67 W' (hb79.trans (h.mono hb79.size)));have HNb:=zD (fun W' (h:Below w9.heap.size w9 W')=>hN7 W' (hb79.trans (h.mono hb79.size)));clear k8 q58 B8 hba8 g9 hb79))
    clear hN7 hN67 hW8 hb8 q8
    have hCS:Cells w9 [(⟨b5,0,none⟩,.slice L4.a1 mc L4.c1),(⟨b5,1,none⟩,.slice L4.a2 mp L4.c2),(⟨b5,2,none⟩,.slice L4.a3 mx L4.c3),(⟨b5,3,none⟩,.int .i64 mt),(⟨b8,0,none⟩,.slice L7.a1 mc L7.c1),(⟨b8,1,none⟩,.slice L7.a2 mp L7.c2),(⟨b8,2,none⟩,.slice L7.a3 mx L7.c3),(⟨b8,3,none⟩,.int .i64 mt),(⟨w.heap.size,0,none⟩,.slice L.a1 nc L.c1),(⟨w.heap.size,1,none⟩,.slice L.a2 np L.c2),(⟨w.heap.size,2,none⟩,.slice L.a3 nx L.c3),(⟨w.heap.size,3,none⟩,.int .i64 pt)]:=
     ⟨q59.cell 0,q59.cell 1,q59.cell 2,q59.cell 3,q9.cell 0,q9.cell 1,q9.cell 2,q9.cell 3,k9.cell 0,k9.cell 1,k9.cell 2,k9.cell 3,yJ⟩
    clear q59 q9 k9;go_wp2_with fail;refine zrE 18 1 [(U,[U,U]),(zrA,[zrA,zrA,U]),(U,[zrA,zrA,zrA,U,U,U,U,U,U,U,zrA,U]),(zrA,[zrA,zrA,zrA,zrA,zrA,zrA,zrA,zrA,zrA,zrA,U]),(zrA,[zrA,zrA,zrA,zrA,zrA,zrA,zrA,zrA,zrA,zrA,zrA,zrA,U]),(U,[zrA,zrA,zrA,zrA,zrA,zrA,zrA,zrA,zrA,zrA,zrA,zrA,zrA,U,U,U]),(zrA,[zrA,zrA,zrA,zrA,zrA,zrA,zrA,zrA,zrA,zrA,zrA,zrA,zrA,zrA,zrA,zrA,U]),(U,[zrA,zrA,zrA,zrA,zrA,zrA,zrA,zrA,zrA,zrA,zrA,zrA,zrA,zrA,zrA,zrA,zrA,U])] (Keeps w9 [(⟨b5,0,none⟩,.slice L4.a1 mc L4.c1),(⟨b5,1,none⟩,.slice L4.a2 mp L4.c2),(⟨b5,2,none⟩,.slice L4.a3 mx L4.c3),(⟨b5,3,none⟩,.int .i64 mt),(⟨b8,0,none⟩,.slice L7.a1 mc L7.c1),(⟨b8,1,none⟩,.slice L7.a2 mp L7.c2),(⟨b8,2,none⟩,.slice L7.a3 mx L7.c3),(⟨b8,3,none⟩,.int .i64 mt),(⟨w.heap.size,0,none⟩,.slice L.a1 nc L.c1),(⟨w.heap.size,1,none⟩,.slice L.a2 np L.c2),(⟨w.heap.size,2,none⟩,.slice L.a3 nx L.c3),(⟨w.heap.size,3,none⟩,.int .i64 pt)]) (by kernel_rfl) (Keeps.start hCS) (fun Y Q4 F4 hY hF=> ?_);simp only[zrC]
    repeat
     apply zF (by rw[hY];rfl)
     ·intro w2 hS2;(try simp only[Keeps,Cells]at hS2);go_simp;with_reducible rfl
     simp only[zrB]
    have hS0:=Keeps.start hCS;apply zS (by rw[hY];rfl)
    ·go_simp;with_reducible exact⟨rfl,rfl⟩
    refine(HS.out L4 L7 _ (HNa.out _ hS0.1) (HNb.out _ hS0.1)).mono ?_;rintro e v1 ⟨rfl,hv1⟩;have hS1:=hS0.step hv1;refine⟨_,rfl,hS1,?_⟩;simp only[zrB]
    repeat
     apply zF (by rw[hY];rfl)
     ·intro w2 hS2;(try simp only[Keeps,Cells]at hS2);go_simp;with_reducible rfl
     simp only[zrB]
    apply zS (by rw[hY];rfl)
    ·go_simp;with_reducible exact⟨rfl,rfl⟩
    refine(HK.out _ (B9.trans (hS1.1.mono B9.size))).mono ?_;rintro e v2 ⟨rfl,hv2⟩;have hS2:=hS1.step hv2;refine⟨_,rfl,hS2,?_⟩;simp only[zrB]
    repeat
     apply zF (by rw[hY];rfl)
     ·intro w2 hS2;(try simp only[Keeps,Cells]at hS2);go_simp;with_reducible rfl
     simp only[zrB]
    apply zS (by rw[hY];rfl)
    ·go_simp;with_reducible exact⟨rfl,rfl⟩
    refine(HR.out _ (B9.trans (hS2.1.mono B9.size))).mono ?_;rintro e v3 ⟨rfl,hv3⟩;have hS3:=hS2.step hv3;refine⟨_,rfl,hS3,?_⟩;simp only[zrB]
    repeat
     apply zF (by rw[hY];rfl)
     ·intro w2 hS2;(try simp only[Keeps,Cells]at hS2);go_simp;with_reducible rfl
     simp only[zrB]
    apply zS (by rw[hY];rfl)
    ·go_simp;with_reducible exact⟨rfl,rfl⟩
    refine(HA.out _).mono ?_;rintro e v4 ⟨rfl,hv4⟩;have hS4:=hS3.step hv4;refine⟨_,rfl,hS4,?_⟩;simp only[zrB]
    repeat
     apply zF (by rw[hY];rfl)
     ·intro w2 hS2;(try simp only[Keeps,Cells]at hS2);go_simp;with_reducible rfl
     simp only[zrB]
    have BF:=B9.trans (hS4.1.mono B9.size);refine zZ (hF.out _ _ (fun K hK=> ?_));clear hF hY;go_wp2_with fail;refine OnlyK.mk (hK.out _ _ ?_);go_wp2;go_returns;exact⟨rfl,BF⟩
   ·have HF:=zD fun(W:World) (hW:Below w.heap.size w W)=>few14_any N L W (hN.step hW) false (by simp[hs]);unfold NV at *;obtain⟨VN,hVN⟩:∃v,zbP N L=v:=⟨_,rfl⟩;rw[hVN]at HVl HF⊢;obtain⟨n,hn⟩:∃n,l.length=n:=⟨_,rfl⟩;rw[hn]at HFc⊢;obtain⟨W1,hW1⟩:∃W1,w.alloc (.cells VN.toArray 26)=W1:=⟨_,rfl⟩;have k1:Blk W1 w.heap.size VN 26:=by rw[←hW1];exact Blk.new w _ _
    have B1:Below w.heap.size w W1:=by rw[←hW1];exact(zG _ _).alloc (zE _) _
    clear hfc hN hVN hn hs hG hl40 hM1 hM3 hMc hrd;go_enter Tryz.func3,Tryz.ntmps3;go_wp2_with (rw[hW1]);refine(HFc.out _ B1).mono ?_;rintro e w2 ⟨rfl,hb2⟩;have B2:=zA B1 hb2;have k2:=k1.step hb2;go_wp2_with (first
     | (refine zbJ 26 (.tmp 3) (by rfl) (by rfl) w.heap.size 0 (by rfl) VN k2.cells _ Tryz.underlying26 rfl (info_N.trans HVl.out) ?_))
    refine(HF.out _ B2).mono ?_;rintro e w3 ⟨rfl,hb3⟩;have B3:=zA B2 hb3;go_wp2_with fail;refine(HA.out _).mono ?_;rintro e w4 ⟨rfl,hb4⟩;go_wp2;go_returns;exact⟨rfl,zA B3 hb4⟩
end Go.Proofs.YtieeogndnhighaaGreat
namespace Go.Proofs.YtieeogndnhighaaGreat
open Go.ChangeShapes Go.WideShapes Go.ChangeAt Go.RowKit
theorem zhA(os:Os)(started:os.Started)(H:Type)(enc:TypeId×Value→H) :
 ReturnsInHanded {} Tryz.checked os 3 .any (Rows.networkBeginsSpec.pre6 enc Tryz.prog Tryz.f3 Rows.networkBeginsRow.domain false) (Rows.networkBeginsSpec.post enc Tryz.prog Tryz.f3 false true false false):=by
 refine returnsInHanded_of_change (C:=Tryz.checked) lawOwn started (by kernel_rfl) Tryz.func3
  (ChangeSpec.witness6 (enc:=enc) (C:=Tryz.checked) false ⟨#[],#[.slice none 0 0,.agg #[.slice none 0 0,.slice none 0 0,.slice none 0 0,.int .i64 0]],[]⟩ 8 (by kernel_rfl) (by kernel_rfl) (by kernel_rfl) (by kernel_rfl)) ?_
 intro W base args ds gs before hval0 hW hcnd _;have hval:∀(j:Nat) t v,Tryz.f3.params[j]? = some t→args[j]? = some v→Value.okWide Tryz.prog W .any base t v:=hval0;have hW':=hW;obtain⟨p,q,hA0,hV,rfl,hfz,hnd⟩:=hW;have hA:DataW.TrodAll enc Tryz.prog W 0 (fun _=>true) true Tryz.f3.params.toList args.toList ds p:=hA0;rw[Tryz.params3]at hA hval;obtain⟨v0,vs0,d0,ds0,p0,q0,hargs,rfl,rfl,h0,r0⟩:=trodAll_cons hA;obtain⟨v1,vs1,d1,ds1,p1,q1,rfl,rfl,rfl,h1,r1⟩:=trodAll_cons r0;obtain⟨rfl,rfl,rfl⟩:=trodAll_nil r1;obtain rfl:args = #[v0,v1]:=by cases args;simp_all
 obtain⟨rfl,rfl⟩:=trodVars_none hV;have k0:=h0;have lt0:∀x∈p0,x.block<W.heap.size:=by obtain⟨m,hm⟩:=k0;exact DataW.trod_lt m _ _ _ hm
 have ok0:=hval 0 22 v0 rfl rfl;have k1:=h1;have lt1:∀x∈p1,x.block<W.heap.size:=by obtain⟨m,hm⟩:=k1;exact DataW.trod_lt m _ _ _ hm
 have ok1:=hval 1 26 v1 rfl rfl;clear hA0 hval0;obtain⟨a,xs,cap,rfl,hl,hrd⟩:=open_comps ok0 h0;obtain⟨N,L,rfl,hN⟩:=open_net ok1 h1;refine(zjU xs a cap N L W hrd hN).mono fun e W' ⟨he,bel⟩=> ?_;subst he;exact⟨_,rfl,_,_,_,[],_,[],hW',trodAll_mk1 (shut_bool Tryz.underlying4 _),(trodAll_cons_mk (Below.trod lawLaid (by kernel_rfl) (of_decide_eq_true (by kernel_rfl)) k0 bel lt0) (trodAll_cons_mk (Below.trod lawLaid (by kernel_rfl) (of_decide_eq_true (by kernel_rfl)) k1 bel lt1) trodAll_mk0)),rfl,bel.frame _,fun h=>by cases h⟩
theorem NetworkBegins_holds:Rows.NetworkBeginsSaid:=
 OpenClaim.holds_of_wide 3 Tryz.f3 rfl rfl rfl rfl rfl rfl rfl ⟨rfl,rfl,rfl,rfl,rfl⟩ rfl rfl rfl rfl rfl (by kernel_rfl) Tryz.func3 (by kernel_rfl)
  (of_decide_eq_true (by kernel_rfl)) (by unfold Func.isWrapper;rw[zK (of_decide_eq_false (by kernel_rfl))];exact⟨rfl,rfl⟩)
  (fun os started H enc _=>zhA os started H enc)
