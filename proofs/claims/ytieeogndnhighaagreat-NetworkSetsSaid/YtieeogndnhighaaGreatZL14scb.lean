/- A part of the proof of L14s. No condition. -/
import Derived.Test.YtieeogndnhighaaGreatZL14sbj
import Derived.Test.YtieeogndnhighaaGreatZL14sby
import Derived.Test.YtieeogndnhighaaGreatZL14sbz
set_option linter.all false
set_option maxRecDepth 100000
set_option maxHeartbeats 4000000
namespace Go.Proofs.YtieeogndnhighaaGreat
open Go.RowKit
theorem GoodN.ctrs{N:S14.N}{t:Nat}(h:GoodN N t):∀p∈N.parts,p.ctrs.length≤100000∧p.m.ctrs.length≤100000:=fun p hp=>by
 obtain⟨k,hk,rfl⟩:=List.getElem_of_mem hp;have hkc:k<N.comps.length:=by rw[←h.len];exact hk
 have hc:N.comps[k]? = some N.comps[k]:=zG hkc;have hG:=h.ps k _ _ hc (zG hk);have hi:=S14.ok_is ((S14.check_zero h.check).2.2 k _ hc);have hr:=hG.right;generalize N.comps[k]=c at *;generalize N.parts[k]=p at *;have hp16:=zgE (n:=c.bits.toNat) (by have:=hi.bits;omega);rcases hi.kind with hk|hk|hk|hk|hk|hk|hk
 ·obtain⟨h1,_,_,_,_,_,h7⟩:=zbY ((zkY (.inl hk)).1 hr);rw[h1,h7];decide
 ·obtain⟨hb,ho⟩:=(right_direct hk).1 hr;obtain⟨_,_,_,_,_,_,h7⟩:=zbY hb;have h1:=(okCtrs_iff.1 ho).1;have h7:p.m.ctrs = []:=h7;rw[h1,h7];exact⟨by omega,by decide⟩
 ·obtain⟨⟨⟨⟨ho,_⟩,_⟩,_⟩,hb⟩:=(ziD hk).1 hr;obtain⟨_,_,_,_,_,_,h7⟩:=zbY hb;have h1:=(okCtrs_iff.1 ho).1;have h7:p.m.ctrs = []:=h7;rw[h1,h7];decide
 ·obtain⟨⟨⟨⟨hb,_⟩,_⟩,_⟩,hm⟩:=(right_match hk).1 hr;obtain⟨h1,_⟩:=zbY hb;have h1:p.ctrs = []:=h1;have h7:=((S12.check_iff p.m).1 hm).ctrs;rw[h1];exact⟨by decide,by omega⟩
 ·obtain⟨h1,_,_,_,_,_,h7⟩:=zbY ((zkY (.inr hk)).1 hr);rw[h1,h7];decide
 ·obtain⟨h1,_,_,_,_,_,h7⟩:=zbY ((right_mix hk).1 hr).1.1.1;have h1:p.ctrs = []:=h1;have h7:p.m.ctrs = []:=h7;rw[h1,h7];decide
 ·obtain⟨h1,_,_,_,_,_,h7⟩:=zbY ((right_refine hk).1 hr).1.1;have h1:p.ctrs = []:=h1;have h7:p.m.ctrs = []:=h7;rw[h1,h7];decide
def Gives14(f:FuncId)(args:Array Value)(M:S14.N)(e:Int)(W:World):Prop:=Calls Tryz.prog f args W fun r w'=>∃L,r = .returned (.tuple #[NV M L,.int .i64 e])∧(∀W',Below w'.heap.size w' W'→NIs M L W')∧Below W.heap.size W w'
noncomputable def S14.ctxE(N:S14.N)(n:Nat):Int:=if S14.checkNet N≠0 then S14.checkNet N else if N.part≠1 then 12 else if n≠16 then 6 else 0
theorem znD(N:S14.N)(L:NLay)(n:Nat)(a:Option Addr)(cap:Nat)(w:World)(hN:NIs N L w)(hl1:N.comps.length≤4611686018427387904)(hlc:∀p∈N.parts,p.ctrs.length≤9223372036854775807)(he:S14.ctxE N n≠0)(hn:n≤40) :
 Calls Tryz.prog 27 #[NV N L,.slice a n cap] w fun e w'=>e = .returned (.tuple #[NV S14.N0 NLay0,.int .i64 (S14.ctxE N n)])∧Below w.heap.size w w':=by
 have HC:=zD fun(W:World) (hW:Below w.heap.size w W)=>zdW N L W (hN.step hW) hl1 (right_all N L W (hN.step hW));obtain⟨R,hR⟩:∃R,S14.ctxE N n=R:=⟨_,rfl⟩;rw[hR]at he⊢;unfold S14.ctxE at hR;obtain⟨ck,hck⟩:∃R,S14.checkNet N=R:=⟨_,rfl⟩;rw[hck]at HC hR;unfold NV zaI at *;obtain⟨nc,hnc⟩:∃n,N.comps.length=n:=⟨_,rfl⟩;obtain⟨np,hnp⟩:∃n,N.parts.length=n:=⟨_,rfl⟩;obtain⟨nx,hnx⟩:∃n,N.ctxs.length=n:=⟨_,rfl⟩;obtain⟨pt,hpt⟩:∃n,N.part=n:=⟨_,rfl⟩;rw[hpt]at hR;simp only[hnc,hnp,hnx,hpt]at HC⊢;clear hN hlc hl1 hnc hnp hnx hpt hck;obtain⟨W1,hW1⟩:∃W1,(w.alloc (.cells #[.slice L.a1 nc L.c1,.slice L.a2 np L.c2,.slice L.a3 nx L.c3,.int .i64 pt] 26)).alloc (.cells #[.slice none 0 0,.slice none 0 0,.slice none 0 0,.int .i64 0] 26)=W1:=⟨_,rfl⟩;have k1:Blk W1 w.heap.size [.slice L.a1 nc L.c1,.slice L.a2 np L.c2,.slice L.a3 nx L.c3,.int .i64 pt] 26:=by rw[←hW1];exact(Blk.new w _ _).alloc _
 have r1:Blk W1 (w.heap.size+1) [.slice none 0 0,.slice none 0 0,.slice none 0 0,.int .i64 0] 26:=by
  rw[←hW1];have h:=Blk.new (w.alloc (.cells #[.slice L.a1 nc L.c1,.slice L.a2 np L.c2,.slice L.a3 nx L.c3,.int .i64 pt] 26)) [.slice none 0 0,.slice none 0 0,.slice none 0 0,.int .i64 0] 26;rwa[zZ]at h
 have B1:Below w.heap.size w W1:=by rw[←hW1];exact((zJ _ _).alloc (zF _) _).alloc (by simp) _
 have Hret:=zD fun(wM:World) (EM:Blk wM (w.heap.size+1) [.slice none 0 0,.slice none 0 0,.slice none 0 0,.int .i64 0] 26)=>run_loadVar_mid wM _ 0 _ _ _ EM.cells Tryz.underlying26 rfl info_N;by_cases h0:ck=0
 ·subst h0;rw[zR (by simp)]at hR;have c3:∀W,Below W1.heap.size W1 W→W.cell? ⟨w.heap.size,3,none⟩=some (.int .i64 pt):=fun W hW=>(k1.step hW).cell 3;have C3:=zD c3;clear c3;by_cases h1:pt=1
  ·subst h1;rw[zR (by simp)]at hR;have h16:n≠16:=fun e=>by rw[zR (by simp[e])]at hR;exact he hR.symm
   rw[zY h16]at hR;subst hR;have h16z:((n:Int) != 16)=true:=by simp;omega
   clear h16 hn he;go_enter Tryz.func27,Tryz.ntmps27;go_wp2_with (first
    | (rw[hW1])
    | (refine zT 26 (.tmp 2) (by rfl) (by rfl) w.heap.size (by rfl) [.slice L.a1 nc L.c1,.slice L.a2 np L.c2,.slice L.a3 nx L.c3,.int .i64 1] 26 k1 _ Tryz.underlying26 rfl info_N ?_))
   refine(HC.out _ B1).mono ?_;rintro e w2 ⟨rfl,hb2⟩;have r2:=r1.step hb2;have B2:=zA B1 hb2;have c3:=C3.out _ hb2;clear k1 r1 hW1 B1 hb2;go_wp2_with (first
    | (refine yD 26 (.tmp 4) (.tmp 23) (by rfl) (by rfl) (w.heap.size+1) (by rfl) [.slice none 0 0,.slice none 0 0,.slice none 0 0,.int .i64 0] (by rfl) _ 26 r2 info_N rfl (by simp[Value.oneCell']) ?_;intro wM EM gM sM))
   refine bodyPost_ret (v:=.tuple #[.agg #[.slice none 0 0,.slice none 0 0,.slice none 0 0,.int .i64 0],.int .i64 6]) ?_ rfl ?_
   ·exact yV (show Tryz.f27.results = #[.cell 4 26,.tmp 5]from rfl) (p:=⟨w.heap.size+1,0,none⟩) rfl rfl (Hret.out wM EM)
   ·exact⟨rfl,B2.trans (yC gM (by omega) B2.size)⟩
  ·rw[zY h1]at hR;subst hR;have h1z:((pt:Int) != 1)=true:=by simpa using h1
   clear h1 he;go_enter Tryz.func27,Tryz.ntmps27;go_wp2_with (first
    | (rw[hW1])
    | (refine zT 26 (.tmp 2) (by rfl) (by rfl) w.heap.size (by rfl) [.slice L.a1 nc L.c1,.slice L.a2 np L.c2,.slice L.a3 nx L.c3,.int .i64 pt] 26 k1 _ Tryz.underlying26 rfl info_N ?_))
   refine(HC.out _ B1).mono ?_;rintro e w2 ⟨rfl,hb2⟩;have r2:=r1.step hb2;have B2:=zA B1 hb2;have c3:=C3.out _ hb2;clear k1 r1 hW1 B1 hb2;go_wp2_with (first
    | (refine yD 26 (.tmp 4) (.tmp 18) (by rfl) (by rfl) (w.heap.size+1) (by rfl) [.slice none 0 0,.slice none 0 0,.slice none 0 0,.int .i64 0] (by rfl) _ 26 r2 info_N rfl (by simp[Value.oneCell']) ?_;intro wM EM gM sM))
   refine bodyPost_ret (v:=.tuple #[.agg #[.slice none 0 0,.slice none 0 0,.slice none 0 0,.int .i64 0],.int .i64 12]) ?_ rfl ?_
   ·exact yV (show Tryz.f27.results = #[.cell 4 26,.tmp 5]from rfl) (p:=⟨w.heap.size+1,0,none⟩) rfl rfl (Hret.out wM EM)
   ·exact⟨rfl,B2.trans (yC gM (by omega) B2.size)⟩
 ·rw[zY h0]at hR;subst hR;have h0z:((ck:Int) != 0)=true:=by simpa using h0
  clear h0 he;go_enter Tryz.func27,Tryz.ntmps27;go_wp2_with (first
   | (rw[hW1])
   | (refine zT 26 (.tmp 2) (by rfl) (by rfl) w.heap.size (by rfl) [.slice L.a1 nc L.c1,.slice L.a2 np L.c2,.slice L.a3 nx L.c3,.int .i64 pt] 26 k1 _ Tryz.underlying26 rfl info_N ?_))
  refine(HC.out _ B1).mono ?_;rintro e w2 ⟨rfl,hb2⟩;have r2:=r1.step hb2;have B2:=zA B1 hb2;clear k1 r1 hW1 B1 hb2;go_wp2_with (first
   | (refine yD 26 (.tmp 4) (.tmp 12) (by rfl) (by rfl) (w.heap.size+1) (by rfl) [.slice none 0 0,.slice none 0 0,.slice none 0 0,.int .i64 0] (by rfl) _ 26 r2 info_N rfl (by simp[Value.oneCell']) ?_;intro wM EM gM sM))
  refine bodyPost_ret (v:=.tuple #[.agg #[.slice none 0 0,.slice none 0 0,.slice none 0 0,.int .i64 0],.int .i64 ck]) ?_ rfl ?_
  ·exact yV (show Tryz.f27.results = #[.cell 4 26,.tmp 5]from rfl) (p:=⟨w.heap.size+1,0,none⟩) rfl rfl (Hret.out wM EM)
  ·exact⟨rfl,B2.trans (yC gM (by omega) B2.size)⟩
theorem zlE(N:S14.N)(L:NLay)(n:Nat)(a:Option Addr)(cap:Nat)(w:World)(hN:NIs N L w)(hl1:N.comps.length≤4611686018427387904)(hlc:∀p∈N.parts,p.ctrs.length≤9223372036854775807)(he:S14.ctxE N n≠0)(hn:n≤40) :
 Calls Tryz.prog 28 #[NV N L,.slice a n cap] w fun e w'=>e = .returned (.tuple #[NV S14.N0 NLay0,.int .i64 (S14.ctxE N n)])∧Below w.heap.size w w':=by
 have HC:=zD fun(W:World) (hW:Below w.heap.size w W)=>zfF N L W (hN.step hW) hl1 hlc;obtain⟨R,hR⟩:∃R,S14.ctxE N n=R:=⟨_,rfl⟩;rw[hR]at he⊢;unfold S14.ctxE at hR;obtain⟨ck,hck⟩:∃R,S14.checkNet N=R:=⟨_,rfl⟩;rw[hck]at HC hR;unfold NV zaI at *;obtain⟨nc,hnc⟩:∃n,N.comps.length=n:=⟨_,rfl⟩;obtain⟨np,hnp⟩:∃n,N.parts.length=n:=⟨_,rfl⟩;obtain⟨nx,hnx⟩:∃n,N.ctxs.length=n:=⟨_,rfl⟩;obtain⟨pt,hpt⟩:∃n,N.part=n:=⟨_,rfl⟩;rw[hpt]at hR;simp only[hnc,hnp,hnx,hpt]at HC⊢;clear hN hlc hl1 hnc hnp hnx hpt hck;obtain⟨W1,hW1⟩:∃W1,(w.alloc (.cells #[.slice L.a1 nc L.c1,.slice L.a2 np L.c2,.slice L.a3 nx L.c3,.int .i64 pt] 26)).alloc (.cells #[.slice none 0 0,.slice none 0 0,.slice none 0 0,.int .i64 0] 26)=W1:=⟨_,rfl⟩;have k1:Blk W1 w.heap.size [.slice L.a1 nc L.c1,.slice L.a2 np L.c2,.slice L.a3 nx L.c3,.int .i64 pt] 26:=by rw[←hW1];exact(Blk.new w _ _).alloc _
 have r1:Blk W1 (w.heap.size+1) [.slice none 0 0,.slice none 0 0,.slice none 0 0,.int .i64 0] 26:=by
  rw[←hW1];have h:=Blk.new (w.alloc (.cells #[.slice L.a1 nc L.c1,.slice L.a2 np L.c2,.slice L.a3 nx L.c3,.int .i64 pt] 26)) [.slice none 0 0,.slice none 0 0,.slice none 0 0,.int .i64 0] 26;rwa[zZ]at h
 have B1:Below w.heap.size w W1:=by rw[←hW1];exact((zJ _ _).alloc (zF _) _).alloc (by simp) _
 have Hret:=zD fun(wM:World) (EM:Blk wM (w.heap.size+1) [.slice none 0 0,.slice none 0 0,.slice none 0 0,.int .i64 0] 26)=>run_loadVar_mid wM _ 0 _ _ _ EM.cells Tryz.underlying26 rfl info_N;by_cases h0:ck=0
 ·subst h0;rw[zR (by simp)]at hR;have c3:∀W,Below W1.heap.size W1 W→W.cell? ⟨w.heap.size,3,none⟩=some (.int .i64 pt):=fun W hW=>(k1.step hW).cell 3;have C3:=zD c3;clear c3;by_cases h1:pt=1
  ·subst h1;rw[zR (by simp)]at hR;have h16:n≠16:=fun e=>by rw[zR (by simp[e])]at hR;exact he hR.symm
   rw[zY h16]at hR;subst hR;have h16z:((n:Int) != 16)=true:=by simp;omega
   clear h16 hn he;go_enter Tryz.func28,Tryz.ntmps28;go_wp2_with (first
    | (rw[hW1])
    | (refine zT 26 (.tmp 2) (by rfl) (by rfl) w.heap.size (by rfl) [.slice L.a1 nc L.c1,.slice L.a2 np L.c2,.slice L.a3 nx L.c3,.int .i64 1] 26 k1 _ Tryz.underlying26 rfl info_N ?_))
   refine(HC.out _ B1).mono ?_;rintro e w2 ⟨rfl,hb2⟩;have r2:=r1.step hb2;have B2:=zA B1 hb2;have c3:=C3.out _ hb2;clear k1 r1 hW1 B1 hb2;go_wp2_with (first
    | (refine yD 26 (.tmp 4) (.tmp 21) (by rfl) (by rfl) (w.heap.size+1) (by rfl) [.slice none 0 0,.slice none 0 0,.slice none 0 0,.int .i64 0] (by rfl) _ 26 r2 info_N rfl (by simp[Value.oneCell']) ?_;intro wM EM gM sM))
   refine bodyPost_ret (v:=.tuple #[.agg #[.slice none 0 0,.slice none 0 0,.slice none 0 0,.int .i64 0],.int .i64 6]) ?_ rfl ?_
   ·exact yV (show Tryz.f28.results = #[.cell 4 26,.tmp 5]from rfl) (p:=⟨w.heap.size+1,0,none⟩) rfl rfl (Hret.out wM EM)
   ·exact⟨rfl,B2.trans (yC gM (by omega) B2.size)⟩
  ·rw[zY h1]at hR;subst hR;have h1z:((pt:Int) != 1)=true:=by simpa using h1
   clear h1 he;go_enter Tryz.func28,Tryz.ntmps28;go_wp2_with (first
    | (rw[hW1])
    | (refine zT 26 (.tmp 2) (by rfl) (by rfl) w.heap.size (by rfl) [.slice L.a1 nc L.c1,.slice L.a2 np L.c2,.slice L.a3 nx L.c3,.int .i64 pt] 26 k1 _ Tryz.underlying26 rfl info_N ?_))
   refine(HC.out _ B1).mono ?_;rintro e w2 ⟨rfl,hb2⟩;have r2:=r1.step hb2;have B2:=zA B1 hb2;have c3:=C3.out _ hb2;clear k1 r1 hW1 B1 hb2;go_wp2_with (first
    | (refine yD 26 (.tmp 4) (.tmp 17) (by rfl) (by rfl) (w.heap.size+1) (by rfl) [.slice none 0 0,.slice none 0 0,.slice none 0 0,.int .i64 0] (by rfl) _ 26 r2 info_N rfl (by simp[Value.oneCell']) ?_;intro wM EM gM sM))
   refine bodyPost_ret (v:=.tuple #[.agg #[.slice none 0 0,.slice none 0 0,.slice none 0 0,.int .i64 0],.int .i64 12]) ?_ rfl ?_
   ·exact yV (show Tryz.f28.results = #[.cell 4 26,.tmp 5]from rfl) (p:=⟨w.heap.size+1,0,none⟩) rfl rfl (Hret.out wM EM)
   ·exact⟨rfl,B2.trans (yC gM (by omega) B2.size)⟩
 ·rw[zY h0]at hR;subst hR;have h0z:((ck:Int) != 0)=true:=by simpa using h0
  clear h0 he;go_enter Tryz.func28,Tryz.ntmps28;go_wp2_with (first
   | (rw[hW1])
   | (refine zT 26 (.tmp 2) (by rfl) (by rfl) w.heap.size (by rfl) [.slice L.a1 nc L.c1,.slice L.a2 np L.c2,.slice L.a3 nx L.c3,.int .i64 pt] 26 k1 _ Tryz.underlying26 rfl info_N ?_))
  refine(HC.out _ B1).mono ?_;rintro e w2 ⟨rfl,hb2⟩;have r2:=r1.step hb2;have B2:=zA B1 hb2;clear k1 r1 hW1 B1 hb2;go_wp2_with (first
   | (refine yD 26 (.tmp 4) (.tmp 12) (by rfl) (by rfl) (w.heap.size+1) (by rfl) [.slice none 0 0,.slice none 0 0,.slice none 0 0,.int .i64 0] (by rfl) _ 26 r2 info_N rfl (by simp[Value.oneCell']) ?_;intro wM EM gM sM))
  refine bodyPost_ret (v:=.tuple #[.agg #[.slice none 0 0,.slice none 0 0,.slice none 0 0,.int .i64 0],.int .i64 ck]) ?_ rfl ?_
  ·exact yV (show Tryz.f28.results = #[.cell 4 26,.tmp 5]from rfl) (p:=⟨w.heap.size+1,0,none⟩) rfl rfl (Hret.out wM EM)
  ·exact⟨rfl,B2.trans (yC gM (by omega) B2.size)⟩
theorem sets14(N:S14.N)(l:List Nat)(hlx:∀x∈l,x<4294967296)(hl40:l.length≤40)(hl1:N.comps.length≤40)(hlc:∀p∈N.parts,p.ctrs.length≤9223372036854775807)(hgood:S14.checkNet N=0→∃t,GoodN N t) :
 ∃(M:S14.N) (e:Int),M.comps.length≤100000∧M.ctxs.length≤100000∧(∀p∈M.parts,p.ctrs.length≤100000∧p.m.ctrs.length≤100000)∧
  ∀(L:NLay) (a:Option Addr) (cap:Nat) (W:World),NIs N L W→Rd W a (zeS l)→Gives14 27 #[NV N L,.slice a l.length cap] M e W∧Gives14 28 #[NV N L,.slice a l.length cap] M e W:=by
 by_cases he:S14.ctxE N l.length=0
 ·unfold S14.ctxE at he;by_cases h0:S14.checkNet N=0
  ·rw[zR (by simp[h0])]at he;by_cases h1:N.part=1
   ·rw[zR (by simp[h1])]at he;have h16:l.length=16:=by
     by_cases h:l.length=16
     ·exact h
     ·rw[zY h]at he;omega
    obtain⟨t,hg⟩:=hgood h0;have hgo:=(hg.ctxs (l:=l) h16).open_;have e:S14.withCtxs N l=⟨N.comps,N.parts,l,1⟩:=by unfold S14.withCtxs;rw[h1]
    have hz:=S14.check_zero hg.check;refine⟨S14.opened (S14.withCtxs N l),0,?_,?_,hgo.ctrs,fun L a cap W hN hrd=>⟨?_,?_⟩⟩
    ·show N.comps.length≤_;omega
    ·rw[hgo.xl];decide
    ·rw[h16];have hO:=(hg.ctxs (l:=l) h16).opens W;rw[e]at hO⊢;refine(zmA N _ L l a cap W (fun _=>False) (fun _ h=>h.elim) (fun W2 h=>hN.step (h.toBelow (zJ _ _) (fun _ h=>h.elim))) (right_all N L W hN) h0 h1 h16 hlx hrd hO).mono ?_;rintro r w' ⟨L',rfl,hN',hb⟩;exact⟨L',rfl,fun W' h=>hN' W' (KepX.below h),hb⟩
    ·rw[h16];have hO:=zmM W (S14.withCtxs N l) hz.1 hz.2.1 (S14.kinds_of hg.check) hg.len h16 hg.pt.1 hg.pt.2;rw[e]at hO⊢;refine(zjW N _ L l a cap W (fun _=>False) (fun _ h=>h.elim) (fun W2 h=>hN.step (h.toBelow (zJ _ _) (fun _ h=>h.elim))) hlc h0 h1 h16 hlx hrd hO).mono ?_;rintro r w' ⟨L',rfl,hN',hb⟩;exact⟨L',rfl,fun W' h=>hN' W' (KepX.below h),hb⟩
   ·rw[zY h1]at he;omega
  ·rw[zY h0]at he;omega
 ·refine⟨S14.N0,S14.ctxE N l.length,by decide,by decide,fun p hp=>(by cases hp),fun L a cap W hN hrd=>⟨?_,?_⟩⟩
  ·refine(znD N L l.length a cap W hN (by omega) hlc he hl40).mono ?_;rintro r w' ⟨rfl,hb⟩;exact⟨NLay0,rfl,fun W' _=>NIs.zero W',hb⟩
  ·refine(zlE N L l.length a cap W hN (by omega) hlc he hl40).mono ?_;rintro r w' ⟨rfl,hb⟩;exact⟨NLay0,rfl,fun W' _=>NIs.zero W',hb⟩
