/- A part of the proof of L15. No condition. -/
import Derived.Test.YtahaacfikalheaaGreatZL15bc
import Derived.Test.YtahaacfikalheaaGreatZL15bm
import Derived.Test.YtahaacfikalheaaGreatZL15bp
set_option linter.all false
set_option maxRecDepth 100000
set_option maxHeartbeats 4000000
namespace Go.Proofs.YtahaacfikalheaaGreat
open Go.RowKit
theorem zdZ(p:S14.P)(y:Lay)(w:World) :
 (Instr.field 78 (.agg (yL p y).toArray) 0).run Tryz.prog w = .ok (.slice y.a1 p.ctrs.length y.c1) w∧
 (Instr.field 78 (.agg (yL p y).toArray) 1).run Tryz.prog w = .ok (zhO p.sb p.sd y.a2 y.c2) w∧
 (Instr.field 78 (.agg (yL p y).toArray) 2).run Tryz.prog w = .ok (.int .i64 p.slot) w∧
 (Instr.field 78 (.agg (yL p y).toArray) 3).run Tryz.prog w = .ok (MV p.m y.pl) w∧
 (Instr.field 78 (.agg (yL p y).toArray) 4).run Tryz.prog w = .ok (.agg (MixC p y).toArray) w∧
 (Instr.field 78 (.agg (yL p y).toArray) 5).run Tryz.prog w = .ok (.agg (ApmC p y).toArray) w:=by
 unfold yL;refine⟨?_,?_,?_,?_,?_,?_⟩<;>(unfold Instr.field part;simp[run_underlying Tryz.underlying78,asAgg,go_sem])<;>rfl
theorem zfL(w:World)(c:S14.C)(t:TypeId)(vs:List Value):∃W1,(w.alloc (.cells (zZ c).toArray t)).alloc (.cells vs.toArray 102)=W1∧Blk W1 w.heap.size (zZ c) t∧Blk W1 (w.heap.size+1) vs 102∧Below w.heap.size w W1:=by
 refine⟨_,rfl,(Blk.new w _ _).alloc _,?_,((zF _ _).alloc (zD _) _).alloc (by simp) _⟩;have h:=Blk.new (w.alloc (.cells (zZ c).toArray t)) vs 102;rwa[zV]at h
def S14.outM(m:S12.M):Int:=if S12.predB m=true then S06.stretch (S12.predP m)else 0
theorem S14.outM_bounds(m:S12.M) : -3071≤S14.outM m∧S14.outM m≤3071:=by
 unfold S14.outM;split
 ·exact S06.stretch_bounds _
 ·omega
theorem zkJ:(Tryz.prog.info? 102).map (·.size)=some 6:=by kernel_rfl
theorem ztO(c:S14.C)(N:S14.N)(L:NLay)(k:Nat)(b:Value)(hb:b.oneCell'=true)(p:S14.P)(y:Lay)(w:World)(hN:NIs N L w)(hp:N.parts[k]? = some p)(hy:L.ys[k]? = some y) :
 Calls Tryz.prog 162 #[CV c,VV N L k b] w fun e w'=>e = .returned (.int .i64 (S14.outM p.m))∧Below w.heap.size w w':=by
 have hk:k<N.parts.length:=(List.getElem?_eq_some_iff.1 hp).1;have hP:=hN.ps k p y hp hy;have HPt:=zB fun(W:World) (hW:Below w.heap.size w W)=>zbW N L k b hb W (hN.step hW) hk p y hp hy;have HPr:=zB fun(W:World) (hW:Below w.heap.size w W)=>ztE p.m y.pl W (hP.mch.step hW);have HSt:=zB fun W=>zdI (S12.predP p.m) W;have HFd:=zB fun W=>(zdZ p y W).2.2.2.1;obtain⟨pt,hpt⟩:∃n,N.part=n:=⟨_,rfl⟩;unfold S14.outM;unfold PV VV at HPt;unfold VV CV;obtain⟨VP,hVP⟩:∃v,yL p y=v:=⟨_,rfl⟩;obtain⟨VM,hVM⟩:∃v,MV p.m y.pl=v:=⟨_,rfl⟩;rw[hVP]at HPt HFd;rw[hVM]at HFd HPr;clear hVP hVM hP hN hp hy hk hb;generalize S12.predP p.m=x at *;generalize S06.stretch x=sx at *;obtain⟨nc,hnc⟩:∃n,N.comps.length=n:=⟨_,rfl⟩;obtain⟨np,hnp⟩:∃n,N.parts.length=n:=⟨_,rfl⟩;obtain⟨nx,hnx⟩:∃n,N.ctxs.length=n:=⟨_,rfl⟩;rw[hnc,hnp,hnx,hpt]at HPt⊢;obtain⟨W1,hW1,k1,k2,B1⟩:=zfL w c 114 [.slice L.a1 nc L.c1,.slice L.a2 np L.c2,.slice L.a3 nx L.c3,.int .i64 pt,.int .i64 (k:Int),b];clear hnc hnp hnx hpt;have HQ:=zB HPr;clear HPr;cases hq:S12.predB p.m with
 | false=>
   have HPr:=HQ.out;rw[hq]at HPr;clear hq HQ;go_enter Tryz.func162,Tryz.ntmps162;go_wp2_with (first
    | (rw[hW1])
    | (refine yA 102 (.tmp 3) (by rfl) (by rfl) (w.heap.size+1) (by rfl) [.slice L.a1 nc L.c1,.slice L.a2 np L.c2,.slice L.a3 nx L.c3,.int .i64 pt,.int .i64 (k:Int),b] 102 k2 _ Tryz.underlying102 rfl zkJ ?_))
   refine(HPt.out _ B1).mono ?_;rintro e w2 ⟨rfl,hb2⟩;have B2:=zA B1 hb2;have hfd:=HFd.out w2;clear hb2 HPt HFd hW1 k1 k2 B1;go_wp2_with fail;refine(HPr.out _ B2).mono ?_;rintro e w3 ⟨rfl,hb3⟩;have B3:=zA B2 hb3;clear hb3 B2 hfd HPr;go_wp2;go_returns;exact⟨rfl,B3⟩
 | true=>
   have HPr:=HQ.out;rw[hq]at HPr;clear hq HQ;go_enter Tryz.func162,Tryz.ntmps162;go_wp2_with (first
    | (rw[hW1])
    | (refine yA 102 (.tmp 3) (by rfl) (by rfl) (w.heap.size+1) (by rfl) [.slice L.a1 nc L.c1,.slice L.a2 np L.c2,.slice L.a3 nx L.c3,.int .i64 pt,.int .i64 (k:Int),b] 102 k2 _ Tryz.underlying102 rfl zkJ ?_))
   refine(HPt.out _ B1).mono ?_;rintro e w2 ⟨rfl,hb2⟩;have B2:=zA B1 hb2;have hfd:=HFd.out w2;clear hb2 HPt HFd hW1 k1 k2 B1;go_wp2_with fail;refine(HPr.out _ B2).mono ?_;rintro e w3 ⟨rfl,hb3⟩;have B3:=zA B2 hb3;clear hb3 B2 hfd HPr;go_wp2_with fail;refine(HSt.out _).mono ?_;rintro e w4 ⟨rfl,hb4⟩;have B4:=zA B3 hb4;go_wp2;go_returns;exact⟨rfl,B4⟩
theorem Rd.intsWindow{w:World}{g o:Nat}{xs:List Int}(h:Rd w (some ⟨g,o,none⟩) (zaK xs))(f n:Nat):Rd w (some ⟨g,o+f,none⟩) (zaK ((xs.drop f).take n)):=fun hne=>by
 have hx:zaK xs≠ []:=fun e=>hne (by
  have:xs = []:=List.map_eq_nil_iff.1 e;rw[this];simp[zaK])
 obtain⟨b,o',e,hr⟩:=h hx;cases e;refine⟨g,o+f,rfl,fun j v hv=> ?_⟩;have h1:(zaK xs)[f+j]? = some v:=by
  unfold zaK at hv⊢;rw[zaG]at hv⊢;rw[zbG]at hv;split at hv
  ·rw[List.getElem?_drop]at hv;exact hv
  ·cases hv
 rw[zbR];exact hr (f+j) v h1
theorem zrU(c:S14.C)(N:S14.N)(L:NLay)(k g o f s:Nat)(w:World)(hf:c.first=(f:Int))(hs:c.second=(s:Int))(hfs:f≤s)(hsk:s<k)(hk:k≤16) :
 Calls Tryz.prog 203 #[CV c,VV N L k (.slice (some ⟨g,o,none⟩) k k)] w fun e w'=>e = .returned (.slice (some ⟨g,o+f,none⟩) (s+1-f) (s+1-f))∧Below w.heap.size w w':=by
 obtain⟨kind,bits,limit,rate,first,second⟩:=c;simp only at hf hs;subst hf;subst hs;unfold VV CV zZ;obtain⟨nc,hnc⟩:∃n,N.comps.length=n:=⟨_,rfl⟩;obtain⟨np,hnp⟩:∃n,N.parts.length=n:=⟨_,rfl⟩;obtain⟨nx,hnx⟩:∃n,N.ctxs.length=n:=⟨_,rfl⟩;obtain⟨pt,hpt⟩:∃n,N.part=n:=⟨_,rfl⟩;rw[hnc,hnp,hnx,hpt];clear hnc hnp hnx hpt;go_enter Tryz.func203,Tryz.ntmps203;go_wp2_with fail;go_returns;exact⟨rfl,((zF _ _).alloc (zD _) _).alloc (by simp) _⟩
theorem mixed14_out(c:S14.C)(N:S14.N)(L:NLay)(k g o:Nat)(p:S14.P)(y:Lay)(n f s:Nat)(bef:List Int)(w:World)(hN:NIs N L w)(hc:N.comps[k]? = some c)(hp:N.parts[k]? = some p)(hy:L.ys[k]? = some y)(hx:k<N.ctxs.length)(pt:Nat)(hpt:N.part=(pt:Int))(hpt2:pt<4294967296)
 (hn:c.bits=(n:Int)) (hn2:n≤16) (hf:c.first=(f:Int)) (hs:c.second=(s:Int)) (hfs:f≤s) (hsk:s<k) (hk16:k≤16) (hlen:bef.length=k) (hrd:Rd w (some ⟨g,o,none⟩) (zaK bef)) :
 Calls Tryz.prog 199 #[CV c,VV N L k (.slice (some ⟨g,o,none⟩) k k)] w fun e w'=>e = .returned (.int .i64 (S13.mixR p.mi p.mw (S14.index (N.ctxs.getD k 0) pt n:Nat) ((bef.drop f).take (s+1-f))))∧Below w.heap.size w w':=by
 have hk:k<N.parts.length:=(List.getElem?_eq_some_iff.1 hp).1;have hP:=hN.ps k p y hp hy;have HPt:=zB fun(W:World) (hW:Below w.heap.size w W)=>zbW N L k (.slice (some ⟨g,o,none⟩) k k) rfl W (hN.step hW) hk p y hp hy;have HIx:=zB fun(W:World) (hW:Below w.heap.size w W)=>zeT N L k (.slice (some ⟨g,o,none⟩) k k) W (hN.step hW) hx pt hpt hpt2 c hc n hn hn2;have HSe:=zB fun(W:World)=>zrU c N L k g o f s W hf hs hfs hsk hk16;obtain⟨i,hi⟩:∃i,S14.index (N.ctxs.getD k 0) pt n=i:=⟨_,rfl⟩;have hsl:((bef.drop f).take (s+1-f)).length=s+1-f:=by rw[yJ,zgS,hlen];omega
 have HMx:=zB fun(W:World) (hW:Below w.heap.size w W)=>mixM13_any p.mi p.mw (.agg (MixC p y).toArray) (i:Int) ((bef.drop f).take (s+1-f)) (some ⟨g,o+f,none⟩) (s+1-f) W (hP.mix.step hW) (by omega) ((hrd.step hW).intsWindow f (s+1-f));rw[hsl]at HMx;rw[hi]at HIx⊢;obtain⟨R,hR⟩:∃R,S13.mixR p.mi p.mw (i:Int) ((bef.drop f).take (s+1-f))=R:=⟨_,rfl⟩;obtain⟨E,hE⟩:∃R,S13.usable 16 p.mi p.mw (i:Int) ((bef.drop f).take (s+1-f))=R:=⟨_,rfl⟩;rw[hR,hE]at HMx;rw[hR];have HFd:=zB fun W=>(zdZ p y W).2.2.2.2.1;obtain⟨VM,hVM⟩:∃v,Value.agg (MixC p y).toArray=v:=⟨_,rfl⟩;rw[hVM]at HFd HMx;unfold PV at HPt;obtain⟨VP,hVP⟩:∃v,yL p y=v:=⟨_,rfl⟩;rw[hVP]at HPt HFd;unfold VV at HPt HIx HSe⊢;obtain⟨m,hm⟩:∃m,s+1-f=m:=⟨_,rfl⟩;rw[hm]at HSe HMx;clear hVP hVM hR hE hsl hP hi hm;obtain⟨nc,hnc⟩:∃n,N.comps.length=n:=⟨_,rfl⟩;obtain⟨np,hnp⟩:∃n,N.parts.length=n:=⟨_,rfl⟩;obtain⟨nx,hnx⟩:∃n,N.ctxs.length=n:=⟨_,rfl⟩;rw[hnc,hnp,hnx,hpt]at HPt HIx HSe⊢;obtain⟨W1,hW1,k1,k2,B1⟩:=zfL w c 116 [.slice L.a1 nc L.c1,.slice L.a2 np L.c2,.slice L.a3 nx L.c3,.int .i64 (pt:Int),.int .i64 (k:Int),.slice (some ⟨g,o,none⟩) k k];clear hnc hnp hnx hpt hN hc hp hy hx hk hn hf hs hfs hsk hk16 hlen hrd;obtain⟨kind,bits,limit,rate,first,second⟩:=c;unfold CV at HSe⊢;unfold zZ at HSe k1 hW1⊢;simp only at HSe k1 hW1⊢;have hCS:Cells W1 [(⟨w.heap.size+1,0,none⟩,.slice L.a1 nc L.c1),(⟨w.heap.size+1,1,none⟩,.slice L.a2 np L.c2),(⟨w.heap.size+1,2,none⟩,.slice L.a3 nx L.c3),(⟨w.heap.size+1,3,none⟩,.int .i64 (pt:Int)),(⟨w.heap.size+1,4,none⟩,.int .i64 (k:Int)),(⟨w.heap.size+1,5,none⟩,.slice (some ⟨g,o,none⟩) k k),(⟨w.heap.size,0,none⟩,.int .i64 kind),(⟨w.heap.size,1,none⟩,.int .i64 bits),(⟨w.heap.size,2,none⟩,.int .i64 limit),(⟨w.heap.size,3,none⟩,.int .i64 rate),(⟨w.heap.size,4,none⟩,.int .i64 first),(⟨w.heap.size,5,none⟩,.int .i64 second)]:=⟨k2.cell 0,k2.cell 1,k2.cell 2,k2.cell 3,k2.cell 4,k2.cell 5,k1.cell 0,k1.cell 1,k1.cell 2,k1.cell 3,k1.cell 4,k1.cell 5,yF⟩;go_enter Tryz.func199,Tryz.ntmps199;go_wp2_with (rw[hW1]);refine zuL 13 1 [(U,[U,zuH,zuH,U,zuH,U,U]),(zuH,[zuH,U]),(U,[zuH,zuH,U]),(zuH,[zuH,zuH,zuH,zuH,U]),(zuH,[zuH,zuH,zuH,zuH,zuH,zuH,zuH,U]),(zuH,[zuH,zuH,zuH,zuH,zuH,zuH,zuH,zuH,U]),(U,[zuH,zuH,zuH,zuH,zuH,zuH,zuH,zuH,zuH,U,U,U]),(zuH,[zuH,zuH,zuH,zuH,zuH,zuH,zuH,zuH,zuH,zuH,zuH,zuH,U])] (Keeps W1 [(⟨w.heap.size+1,0,none⟩,.slice L.a1 nc L.c1),(⟨w.heap.size+1,1,none⟩,.slice L.a2 np L.c2),(⟨w.heap.size+1,2,none⟩,.slice L.a3 nx L.c3),(⟨w.heap.size+1,3,none⟩,.int .i64 (pt:Int)),(⟨w.heap.size+1,4,none⟩,.int .i64 (k:Int)),(⟨w.heap.size+1,5,none⟩,.slice (some ⟨g,o,none⟩) k k),(⟨w.heap.size,0,none⟩,.int .i64 kind),(⟨w.heap.size,1,none⟩,.int .i64 bits),(⟨w.heap.size,2,none⟩,.int .i64 limit),(⟨w.heap.size,3,none⟩,.int .i64 rate),(⟨w.heap.size,4,none⟩,.int .i64 first),(⟨w.heap.size,5,none⟩,.int .i64 second)]) (by kernel_rfl) (Keeps.start hCS) (fun Y Q4 F4 hY hF=> ?_);simp only[zuJ]
 repeat
  apply zJ (by rw[hY];rfl)
  ·intro w2 hS2;(try simp only[Keeps,Cells]at hS2);go_simp;with_reducible rfl
  simp only[zuI]
 apply zR (by rw[hY];rfl)
 ·go_simp;with_reducible exact⟨rfl,rfl⟩
 refine(HPt.out _ (zA B1 (Keeps.start hCS).1)).mono ?_;rintro e w2 ⟨rfl,hb2⟩;have hk2:=(Keeps.start hCS).step hb2;refine⟨_,rfl,hk2,?_⟩;simp only[zuI];have hfd:=HFd.out
 repeat
  apply zJ (by rw[hY];rfl)
  ·intro w2 hS2;(try simp only[Keeps,Cells]at hS2);go_simp;with_reducible rfl
  simp only[zuI]
 apply zR (by rw[hY];rfl)
 ·go_simp;with_reducible exact⟨rfl,rfl⟩
 refine(HIx.out _ (zA B1 hk2.1)).mono ?_;rintro e w3 ⟨rfl,hb3⟩;have hk3:=hk2.step hb3;refine⟨_,rfl,hk3,?_⟩;simp only[zuI]
 repeat
  apply zJ (by rw[hY];rfl)
  ·intro w2 hS2;(try simp only[Keeps,Cells]at hS2);go_simp;with_reducible rfl
  simp only[zuI]
 apply zR (by rw[hY];rfl)
 ·go_simp;with_reducible exact⟨rfl,rfl⟩
 refine(HSe.out _).mono ?_;rintro e w4 ⟨rfl,hb4⟩;have hk4:=hk3.step hb4;refine⟨_,rfl,hk4,?_⟩;simp only[zuI]
 repeat
  apply zJ (by rw[hY];rfl)
  ·intro w2 hS2;(try simp only[Keeps,Cells]at hS2);go_simp;with_reducible rfl
  simp only[zuI]
 apply zR (by rw[hY];rfl)
 ·go_simp;with_reducible exact⟨rfl,rfl⟩
 refine(HMx.out _ (zA B1 hk4.1)).mono ?_;rintro e w5 ⟨rfl,hb5⟩;have hk5:=hk4.step hb5;refine⟨_,rfl,hk5,?_⟩;simp only[zuI]
 repeat
  apply zJ (by rw[hY];rfl)
  ·intro w2 hS2;(try simp only[Keeps,Cells]at hS2);go_simp;with_reducible rfl
  simp only[zuI]
 refine zbZ (by rw[hY];rfl) (by go_simp;first|with_reducible exact⟨rfl,rfl⟩|with_reducible rfl) (hk5) ?_;simp only[zuI];refine yE (hF.out _ _ (fun K hK=> ?_));clear hF hY;have hB5:=zA B1 hk5.1;go_wp2_with fail;refine OnlyK.mk (hK.out _ _ ?_);clear hK hk2 hk3 hk4 hk5;go_wp2;go_returns;exact⟨rfl,hB5⟩
theorem ztC(c:S14.C)(N:S14.N)(L:NLay)(k g o:Nat)(p:S14.P)(y:Lay)(n f:Nat)(bef:List Int)(w:World)(hN:NIs N L w)(hc:N.comps[k]? = some c)(hp:N.parts[k]? = some p)(hy:L.ys[k]? = some y)(hx:k<N.ctxs.length)(pt:Nat)(hpt:N.part=(pt:Int))(hpt2:pt<4294967296)
 (hn:c.bits=(n:Int)) (hn2:n≤16) (hf:c.first=(f:Int)) (hsk:f<k) (hlen:bef.length=k) (hrd:Rd w (some ⟨g,o,none⟩) (zaK bef)) :
 Calls Tryz.prog 219 #[CV c,VV N L k (.slice (some ⟨g,o,none⟩) k k)] w fun e w'=>e = .returned (.int .i64 (S06.stretch (S11.refineR p.ac (S14.index (N.ctxs.getD k 0) pt n:Nat) (S06.squash (bef.getD f 0)))))∧Below w.heap.size w w':=by
 have hk:k<N.parts.length:=(List.getElem?_eq_some_iff.1 hp).1;have hP:=hN.ps k p y hp hy;have HPt:=zB fun(W:World) (hW:Below w.heap.size w W)=>zbW N L k (.slice (some ⟨g,o,none⟩) k k) rfl W (hN.step hW) hk p y hp hy;have HIx:=zB fun(W:World) (hW:Below w.heap.size w W)=>zeT N L k (.slice (some ⟨g,o,none⟩) k k) W (hN.step hW) hx pt hpt hpt2 c hc n hn hn2;obtain⟨i,hi⟩:∃i,S14.index (N.ctxs.getD k 0) pt n=i:=⟨_,rfl⟩;obtain⟨x,hxb⟩:∃x,bef.getD f 0=x:=⟨_,rfl⟩;have hcell:w.cell? ⟨g,o+f,none⟩=some (.int .i64 x):=by
  obtain⟨b,o',e,hr⟩:=hrd (fun e=>by have h:=yS List.length e;rw[yM,List.length_nil]at h;omega);cases e;refine hr f _ ?_;unfold zaK;rw[zaG,zE (by omega),←hxb,zI,zE (by omega)];rfl
 have HSq:=zB fun W=>zdW x W;obtain⟨am,cm,hVe,hm1,hm2,hmr⟩:=hP.apm;have HRf:=zB fun(W:World) (hW:Below w.heap.size w W)=>refine11_any p.ac am cm (i:Int) (S06.squash x) W hm1 hm2 (hmr.step hW);rw[←hVe]at HRf;rw[hi]at HIx⊢;rw[hxb];obtain⟨q,hq⟩:∃q,S06.squash x=q:=⟨_,rfl⟩;rw[hq]at HSq HRf⊢;obtain⟨R,hR⟩:∃R,S11.refineR p.ac (i:Int) q=R:=⟨_,rfl⟩;obtain⟨E,hE⟩:∃R,S11.usable p.ac (i:Int) q=R:=⟨_,rfl⟩;rw[hR,hE]at HRf;rw[hR];have HSt:=zB fun W=>zdI R W;obtain⟨T,hT⟩:∃T,S06.stretch R=T:=⟨_,rfl⟩;rw[hT]at HSt⊢;have HFd:=zB fun W=>(zdZ p y W).2.2.2.2.2;obtain⟨VM,hVM⟩:∃v,Value.agg (ApmC p y).toArray=v:=⟨_,rfl⟩;rw[hVM]at HFd HRf;unfold PV at HPt;obtain⟨VP,hVP⟩:∃v,yL p y=v:=⟨_,rfl⟩;rw[hVP]at HPt HFd;unfold VV at HPt HIx⊢;clear hVP hVM hR hE hP hi hT hq hxb hVe hm1 hm2 hmr;obtain⟨nc,hnc⟩:∃n,N.comps.length=n:=⟨_,rfl⟩;obtain⟨np,hnp⟩:∃n,N.parts.length=n:=⟨_,rfl⟩;obtain⟨nx,hnx⟩:∃n,N.ctxs.length=n:=⟨_,rfl⟩;rw[hnc,hnp,hnx,hpt]at HPt HIx⊢;obtain⟨W1,hW1,k1,k2,B1⟩:=zfL w c 117 [.slice L.a1 nc L.c1,.slice L.a2 np L.c2,.slice L.a3 nx L.c3,.int .i64 (pt:Int),.int .i64 (k:Int),.slice (some ⟨g,o,none⟩) k k];have hcell1:=(B1.cell (zL hcell)).trans hcell;have hfz:(f:Int)<(k:Int):=by omega
 clear hnc hnp hnx hpt hN hc hp hy hx hk hn hlen hrd hcell;obtain⟨kind,bits,limit,rate,first,second⟩:=c;simp only at hf;subst hf;unfold CV;unfold zZ at k1 hW1⊢;simp only at k1 hW1⊢;have hCS:Cells W1 [(⟨w.heap.size+1,0,none⟩,.slice L.a1 nc L.c1),(⟨w.heap.size+1,1,none⟩,.slice L.a2 np L.c2),(⟨w.heap.size+1,2,none⟩,.slice L.a3 nx L.c3),(⟨w.heap.size+1,3,none⟩,.int .i64 (pt:Int)),(⟨w.heap.size+1,4,none⟩,.int .i64 (k:Int)),(⟨w.heap.size+1,5,none⟩,.slice (some ⟨g,o,none⟩) k k),(⟨w.heap.size,0,none⟩,.int .i64 kind),(⟨w.heap.size,1,none⟩,.int .i64 bits),(⟨w.heap.size,2,none⟩,.int .i64 limit),(⟨w.heap.size,3,none⟩,.int .i64 rate),(⟨w.heap.size,4,none⟩,.int .i64 (f:Int)),(⟨w.heap.size,5,none⟩,.int .i64 second),(⟨g,o+f,none⟩,.int .i64 x)]:=⟨k2.cell 0,k2.cell 1,k2.cell 2,k2.cell 3,k2.cell 4,k2.cell 5,k1.cell 0,k1.cell 1,k1.cell 2,k1.cell 3,k1.cell 4,k1.cell 5,hcell1,yF⟩;go_enter Tryz.func219,Tryz.ntmps219;go_wp2_with (rw[hW1]);refine zuL 18 1 [(U,[U,zuH,zuH,U,zuH,U,U,U,U,U,U,U]),(zuH,[zuH,U]),(U,[zuH,zuH,U]),(zuH,[zuH,zuH,zuH,zuH,U]),(zuH,[zuH,zuH,zuH,zuH,zuH,zuH,zuH,zuH,zuH,zuH,zuH,zuH,U]),(zuH,[zuH,zuH,zuH,zuH,zuH,zuH,zuH,zuH,zuH,zuH,zuH,zuH,zuH,U]),(U,[zuH,zuH,zuH,zuH,zuH,zuH,zuH,zuH,zuH,zuH,zuH,zuH,zuH,zuH,U,U,U]),(zuH,[zuH,zuH,zuH,zuH,zuH,zuH,zuH,zuH,zuH,zuH,zuH,zuH,zuH,zuH,zuH,zuH,zuH,U])] (Keeps W1 [(⟨w.heap.size+1,0,none⟩,.slice L.a1 nc L.c1),(⟨w.heap.size+1,1,none⟩,.slice L.a2 np L.c2),(⟨w.heap.size+1,2,none⟩,.slice L.a3 nx L.c3),(⟨w.heap.size+1,3,none⟩,.int .i64 (pt:Int)),(⟨w.heap.size+1,4,none⟩,.int .i64 (k:Int)),(⟨w.heap.size+1,5,none⟩,.slice (some ⟨g,o,none⟩) k k),(⟨w.heap.size,0,none⟩,.int .i64 kind),(⟨w.heap.size,1,none⟩,.int .i64 bits),(⟨w.heap.size,2,none⟩,.int .i64 limit),(⟨w.heap.size,3,none⟩,.int .i64 rate),(⟨w.heap.size,4,none⟩,.int .i64 (f:Int)),(⟨w.heap.size,5,none⟩,.int .i64 second),(⟨g,o+f,none⟩,.int .i64 x)]) (by kernel_rfl) (Keeps.start hCS) (fun Y Q4 F4 hY hF=> ?_);simp only[zuJ]
 repeat
  apply zJ (by rw[hY];rfl)
  ·intro w2 hS2;(try simp only[Keeps,Cells]at hS2);go_simp;with_reducible rfl
  simp only[zuI]
 apply zR (by rw[hY];rfl)
 ·go_simp;with_reducible exact⟨rfl,rfl⟩
 refine(HPt.out _ (zA B1 (Keeps.start hCS).1)).mono ?_;rintro e w2 ⟨rfl,hb2⟩;have hk2:=(Keeps.start hCS).step hb2;refine⟨_,rfl,hk2,?_⟩;simp only[zuI];have hfd:=HFd.out
 repeat
  apply zJ (by rw[hY];rfl)
  ·intro w2 hS2;(try simp only[Keeps,Cells]at hS2);go_simp;with_reducible rfl
  simp only[zuI]
 apply zR (by rw[hY];rfl)
 ·go_simp;with_reducible exact⟨rfl,rfl⟩
 refine(HIx.out _ (zA B1 hk2.1)).mono ?_;rintro e w3 ⟨rfl,hb3⟩;have hk3:=hk2.step hb3;refine⟨_,rfl,hk3,?_⟩;simp only[zuI]
 repeat
  apply zJ (by rw[hY];rfl)
  ·intro w2 hS2;(try simp only[Keeps,Cells]at hS2);go_simp;with_reducible rfl
  simp only[zuI]
 apply zR (by rw[hY];rfl)
 ·go_simp;with_reducible exact⟨rfl,rfl⟩
 refine(HSq.out _).mono ?_;rintro e w4 ⟨rfl,hb4⟩;have hk4:=hk3.step hb4;refine⟨_,rfl,hk4,?_⟩;simp only[zuI]
 repeat
  apply zJ (by rw[hY];rfl)
  ·intro w2 hS2;(try simp only[Keeps,Cells]at hS2);go_simp;with_reducible rfl
  simp only[zuI]
 apply zR (by rw[hY];rfl)
 ·go_simp;with_reducible exact⟨rfl,rfl⟩
 refine(HRf.out _ (zA B1 hk4.1)).mono ?_;rintro e w5 ⟨rfl,hb5⟩;have hk5:=hk4.step hb5;refine⟨_,rfl,hk5,?_⟩;simp only[zuI]
 repeat
  apply zJ (by rw[hY];rfl)
  ·intro w2 hS2;(try simp only[Keeps,Cells]at hS2);go_simp;with_reducible rfl
  simp only[zuI]
 refine zbZ (by rw[hY];rfl) (by go_simp;first|with_reducible exact⟨rfl,rfl⟩|with_reducible rfl) (hk5) ?_;simp only[zuI];refine yE (hF.out _ _ (fun K hK=> ?_));clear hF hY;have hB5:=zA B1 hk5.1;go_wp2_with fail;refine OnlyK.mk (hK.out _ _ ?_);clear hK hk2 hk3 hk4 hk5;go_wp2_with fail;refine(HSt.out _).mono ?_;rintro e w6 ⟨rfl,hb6⟩;have hB6:=zA hB5 hb6;go_wp2;go_returns;exact⟨rfl,hB6⟩
theorem node_all_1:∀pt<256,16≤pt/2^(1-1)→pt/2^1<16→bits BinOp.or IntKind.i64 1 (bits BinOp.and IntKind.i64 ((pt:Nat):Int) 0)=(S14.node pt:Int):=by decide +kernel
theorem node_all_2:∀pt<256,16≤pt/2^(2-1)→pt/2^2<16→bits BinOp.or IntKind.i64 2 (bits BinOp.and IntKind.i64 ((pt:Nat):Int) 1)=(S14.node pt:Int):=by decide +kernel
theorem node_all_3:∀pt<256,16≤pt/2^(3-1)→pt/2^3<16→bits BinOp.or IntKind.i64 4 (bits BinOp.and IntKind.i64 ((pt:Nat):Int) 3)=(S14.node pt:Int):=by decide +kernel
theorem node_all_4:∀pt<256,16≤pt/2^(4-1)→pt/2^4<16→bits BinOp.or IntKind.i64 8 (bits BinOp.and IntKind.i64 ((pt:Nat):Int) 7)=(S14.node pt:Int):=by decide +kernel
theorem zoJ(N:S14.N)(L:NLay)(k:Nat)(b:Value)(w:World)(pt:Nat)(hpt:N.part=(pt:Int))(h1:1≤pt)(h2:pt≤255) :
 Calls Tryz.prog 152 #[VV N L k b] w fun e w'=>e = .returned (.int .i64 (S14.node pt:Int))∧Below w.heap.size w w':=by
 unfold VV;obtain⟨nc,hnc⟩:∃n,N.comps.length=n:=⟨_,rfl⟩;obtain⟨np,hnp⟩:∃n,N.parts.length=n:=⟨_,rfl⟩;obtain⟨nx,hnx⟩:∃n,N.ctxs.length=n:=⟨_,rfl⟩;rw[hnc,hnp,hnx,hpt];obtain⟨W1,hW1⟩:∃W1,w.alloc (.cells #[.slice L.a1 nc L.c1,.slice L.a2 np L.c2,.slice L.a3 nx L.c3,.int .i64 (pt:Int),.int .i64 (k:Int),b] 102)=W1:=⟨_,rfl⟩;have k1:Blk W1 w.heap.size [.slice L.a1 nc L.c1,.slice L.a2 np L.c2,.slice L.a3 nx L.c3,.int .i64 (pt:Int),.int .i64 (k:Int),b] 102:=by rw[←hW1];exact Blk.new w _ _
 have B1:Below w.heap.size w W1:=by rw[←hW1];exact(zF _ _).alloc (zD _) _
 have c3:=k1.cell 3;simp only[zuK]at c3;clear hnc hnp hnx hpt k1;go_enter Tryz.func152,Tryz.ntmps152;go_wp2_with (rw[hW1]);go_loopw [3,4] (fun h d wr=>∃j:Nat,j≤4∧h = .int .i64 ((pt/2^j:Nat):Int)∧d = .int .i64 (j:Int)∧(j=0∨16≤pt/2^(j-1))∧wr=W1) (fun h _ _=>(intOf h).toNat)
 case atStart=>exact⟨0,by omega,by simp,rfl,.inl rfl,rfl⟩
 case round=>
  obtain⟨j,hj,rfl,rfl,hj2,rfl⟩:=hrel;obtain⟨hi,hhi⟩:∃x,pt/2^j=x:=⟨_,rfl⟩;have hpow:pt/2^(j+1)=hi/2:=by rw[zcI,←Nat.div_div_eq_div_mul,hhi]
  rw[hhi];by_cases h16:16≤hi
  ·have hz:(16:Int)≤hi:=by omega
   have hlt:j<4:=by
    rcases zaE j 4 with h|h
    ·exact h
    ·obtain rfl:j=4:=by omega
     have:pt/2^4≤255/2^4:=Nat.div_le_div_right h2;omega
   have H:=zB hhi;have Hp:=zB hpow;clear hhi hpow hj2;go_wp2;go_roundw
   case rel=>exact⟨j+1,by omega,by rw[Hp.out];simp,by simp,.inr (by rw[Nat.add_sub_cancel,H.out];exact h16),yF⟩
   case measure=>simp[intOf];omega
  ·have hz:¬(16:Int)≤hi:=by omega
   have hc:j=0∨j=1∨j=2∨j=3∨j=4:=by omega
   rcases hc with rfl|rfl|rfl|rfl|rfl
   ·have hn:S14.node pt=pt:=by unfold S14.node;rw[zO (by simp at hhi;omega)]
    go_wp2;go_returns;exact⟨rfl,B1⟩
   ·have hn:=node_all_1 pt (by omega) (by simpa using hj2) (by rw[hhi];omega);go_wp2;go_quiet (fail);go_wp2;go_returns;exact⟨by first|rfl|(rw[←hn];rfl)|(simp[hn]),ziE B1 _⟩
   ·have hn:=node_all_2 pt (by omega) (by simpa using hj2) (by rw[hhi];omega);go_wp2;go_quiet (fail);go_wp2;go_returns;exact⟨by first|rfl|(rw[←hn];rfl)|(simp[hn]),ziE B1 _⟩
   ·have hn:=node_all_3 pt (by omega) (by simpa using hj2) (by rw[hhi];omega);go_wp2;go_quiet (fail);go_wp2;go_returns;exact⟨by first|rfl|(rw[←hn];rfl)|(simp[hn]),ziE B1 _⟩
   ·have hn:=node_all_4 pt (by omega) (by simpa using hj2) (by rw[hhi];omega);go_wp2;go_quiet (fail);go_wp2;go_returns;exact⟨by first|rfl|(rw[←hn];rfl)|(simp[hn]),ziE B1 _⟩
theorem S10.getN_lt{bits:Int}{xs:List Int}(n k:Int)(h:S10.check bits xs=0)(hok:∀x∈xs,0≤x∧x<256):0≤S10.getN bits xs n k∧S10.getN bits xs n k<215:=by
 unfold S10.getN;split
 ·rename_i hn
  obtain⟨_,he⟩:=S10.node_zero hn;obtain⟨b,hb,hb16,hlen,hbad⟩:=S10.correct h;unfold S10.exists at he;simp only[zS,zY]at he;obtain⟨⟨h1,h2⟩,h3,h4⟩:=he;rw[hb,Int.toNat_natCast]at h2;have hp2:(2:Int)^b=((2^b:Nat):Int):=by simp
  have hn2:n.toNat<2^b:=by omega
  have hlt:16*n.toNat+k.toNat<xs.length:=by omega
  rw[zI,zE hlt,zeK];have hm:=hok _ (zbC hlt);refine⟨hm.1,?_⟩;unfold S10.bad at hbad;rw[List.any_eq_false]at hbad;have h5:=hbad n.toNat (List.mem_range.2 hn2);have h6:xs[16*n.toNat+k.toNat]∈S10.tail xs n.toNat:=by
   refine zdB (i:=k.toNat-1) ?_;unfold S10.tail;rw[zbG,zO (by omega),List.getElem?_drop,show 16*n.toNat+1+(k.toNat-1)=16*n.toNat+k.toNat by omega,zE hlt]
  have h7:S10.bad1 xs[16*n.toNat+k.toNat]=false:=by
   cases hq:S10.bad1 xs[16*n.toNat+k.toNat]with
   | false=>rfl
   | true=>exact absurd (List.any_eq_true.2 ⟨_,h6,hq⟩) h5
  unfold S10.bad1 at h7;simpa using h7
 ·omega
theorem zoR(c:S14.C)(N:S14.N)(L:NLay)(k:Nat)(b:Value)(hb:b.oneCell'=true)(p:S14.P)(y:Lay)(w:World)(hN:NIs N L w)(hp:N.parts[k]? = some p)(hy:L.ys[k]? = some y)(pt:Nat)(hpt:N.part=(pt:Int))(h1:1≤pt)(h2:pt≤255) :
 Calls Tryz.prog 149 #[CV c,VV N L k b] w fun e w'=>e = .returned (.int .i64 (S10.getN p.sb p.sd p.slot (S14.node pt:Nat)))∧Below w.heap.size w w':=by
 have hk:k<N.parts.length:=(List.getElem?_eq_some_iff.1 hp).1;have hP:=hN.ps k p y hp hy;have HPt:=zB fun(W:World) (hW:Below w.heap.size w W)=>zbW N L k b hb W (hN.step hW) hk p y hp hy;have HH:=zB fun(W:World)=>zoJ N L k b W pt hpt h1 h2;have HG:=zB fun(W:World) (hW:Below w.heap.size w W)=>get10_any p.sb p.sd p.slot (S14.node pt:Nat) y.a2 y.c2 W (hP.tab.step hW);obtain⟨R,hR⟩:∃R,S10.getN p.sb p.sd p.slot (S14.node pt:Nat)=R:=⟨_,rfl⟩;obtain⟨E,hE⟩:∃R,S10.node p.sb p.sd p.slot (S14.node pt:Nat)=R:=⟨_,rfl⟩;rw[hR,hE]at HG;rw[hR];obtain⟨nd,hnd⟩:∃R,S14.node pt=R:=⟨_,rfl⟩;rw[hnd]at HG HH;have HFd:=zB fun W=>(zdZ p y W).2.1;have HFe:=zB fun W=>(zdZ p y W).2.2.1;obtain⟨VM,hVM⟩:∃v,zhO p.sb p.sd y.a2 y.c2=v:=⟨_,rfl⟩;obtain⟨sl,hsl⟩:∃v,p.slot=v:=⟨_,rfl⟩;rw[hVM]at HFd HG;rw[hsl]at HFe HG;unfold PV at HPt;obtain⟨VP,hVP⟩:∃v,yL p y=v:=⟨_,rfl⟩;rw[hVP]at HPt HFd HFe;unfold VV at HPt HH⊢;obtain⟨nc,hnc⟩:∃n,N.comps.length=n:=⟨_,rfl⟩;obtain⟨np,hnp⟩:∃n,N.parts.length=n:=⟨_,rfl⟩;obtain⟨nx,hnx⟩:∃n,N.ctxs.length=n:=⟨_,rfl⟩;rw[hnc,hnp,hnx,hpt]at HPt HH⊢;obtain⟨W1,hW1,k1,k2,B1⟩:=zfL w c 113 [.slice L.a1 nc L.c1,.slice L.a2 np L.c2,.slice L.a3 nx L.c3,.int .i64 (pt:Int),.int .i64 (k:Int),b];clear hnc hnp hnx hpt hN hp hy hk hb hVP hVM hsl hnd hR hE hP h1 h2;obtain⟨kind,bits,limit,rate,first,second⟩:=c;unfold CV;unfold zZ at k1 hW1⊢;simp only at k1 hW1⊢;have hCS:Cells W1 [(⟨w.heap.size+1,0,none⟩,.slice L.a1 nc L.c1),(⟨w.heap.size+1,1,none⟩,.slice L.a2 np L.c2),(⟨w.heap.size+1,2,none⟩,.slice L.a3 nx L.c3),(⟨w.heap.size+1,3,none⟩,.int .i64 (pt:Int)),(⟨w.heap.size+1,4,none⟩,.int .i64 (k:Int)),(⟨w.heap.size+1,5,none⟩,b),(⟨w.heap.size,0,none⟩,.int .i64 kind),(⟨w.heap.size,1,none⟩,.int .i64 bits),(⟨w.heap.size,2,none⟩,.int .i64 limit),(⟨w.heap.size,3,none⟩,.int .i64 rate),(⟨w.heap.size,4,none⟩,.int .i64 first),(⟨w.heap.size,5,none⟩,.int .i64 second)]:=⟨k2.cell 0,k2.cell 1,k2.cell 2,k2.cell 3,k2.cell 4,k2.cell 5,k1.cell 0,k1.cell 1,k1.cell 2,k1.cell 3,k1.cell 4,k1.cell 5,yF⟩;go_enter Tryz.func149,Tryz.ntmps149;go_wp2_with (rw[hW1]);refine zuL 13 1 [(U,[U,zuH,zuH,U,zuH,zuH,U]),(zuH,[zuH,U]),(U,[zuH,zuH,U]),(zuH,[zuH,zuH,zuH,zuH,U]),(U,[zuH,zuH,zuH,zuH,zuH,U]),(zuH,[zuH,zuH,zuH,zuH,zuH,zuH,zuH,U]),(zuH,[zuH,zuH,zuH,zuH,zuH,zuH,zuH,zuH,U]),(U,[zuH,zuH,zuH,zuH,zuH,zuH,zuH,zuH,zuH,U,U,U]),(zuH,[zuH,zuH,zuH,zuH,zuH,zuH,zuH,zuH,zuH,zuH,zuH,zuH,U])] (Keeps W1 [(⟨w.heap.size+1,0,none⟩,.slice L.a1 nc L.c1),(⟨w.heap.size+1,1,none⟩,.slice L.a2 np L.c2),(⟨w.heap.size+1,2,none⟩,.slice L.a3 nx L.c3),(⟨w.heap.size+1,3,none⟩,.int .i64 (pt:Int)),(⟨w.heap.size+1,4,none⟩,.int .i64 (k:Int)),(⟨w.heap.size+1,5,none⟩,b),(⟨w.heap.size,0,none⟩,.int .i64 kind),(⟨w.heap.size,1,none⟩,.int .i64 bits),(⟨w.heap.size,2,none⟩,.int .i64 limit),(⟨w.heap.size,3,none⟩,.int .i64 rate),(⟨w.heap.size,4,none⟩,.int .i64 first),(⟨w.heap.size,5,none⟩,.int .i64 second)]) (by kernel_rfl) (Keeps.start hCS) (fun Y Q4 F4 hY hF=> ?_);simp only[zuJ]
 repeat
  apply zJ (by rw[hY];rfl)
  ·intro w2 hS2;(try simp only[Keeps,Cells]at hS2);go_simp;with_reducible rfl
  simp only[zuI]
 apply zR (by rw[hY];rfl)
 ·go_simp;with_reducible exact⟨rfl,rfl⟩
 refine(HPt.out _ (zA B1 (Keeps.start hCS).1)).mono ?_;rintro e w2 ⟨rfl,hb2⟩;have hk2:=(Keeps.start hCS).step hb2;refine⟨_,rfl,hk2,?_⟩;simp only[zuI];have hfd:=HFd.out
 repeat
  apply zJ (by rw[hY];rfl)
  ·intro w2 hS2;(try simp only[Keeps,Cells]at hS2);go_simp;with_reducible rfl
  simp only[zuI]
 apply zR (by rw[hY];rfl)
 ·go_simp;with_reducible exact⟨rfl,rfl⟩
 refine(HPt.out _ (zA B1 hk2.1)).mono ?_;rintro e w3 ⟨rfl,hb3⟩;have hk3:=hk2.step hb3;refine⟨_,rfl,hk3,?_⟩;simp only[zuI];have hfe:=HFe.out
 repeat
  apply zJ (by rw[hY];rfl)
  ·intro w2 hS2;(try simp only[Keeps,Cells]at hS2);go_simp;with_reducible rfl
  simp only[zuI]
 apply zR (by rw[hY];rfl)
 ·go_simp;with_reducible exact⟨rfl,rfl⟩
 refine(HH.out _).mono ?_;rintro e w4 ⟨rfl,hb4⟩;have hk4:=hk3.step hb4;refine⟨_,rfl,hk4,?_⟩;simp only[zuI]
 repeat
  apply zJ (by rw[hY];rfl)
  ·intro w2 hS2;(try simp only[Keeps,Cells]at hS2);go_simp;with_reducible rfl
  simp only[zuI]
 apply zR (by rw[hY];rfl)
 ·go_simp;with_reducible exact⟨rfl,rfl⟩
 refine(HG.out _ (zA B1 hk4.1)).mono ?_;rintro e w5 ⟨rfl,hb5⟩;have hk5:=hk4.step hb5;refine⟨_,rfl,hk5,?_⟩;simp only[zuI]
 repeat
  apply zJ (by rw[hY];rfl)
  ·intro w2 hS2;(try simp only[Keeps,Cells]at hS2);go_simp;with_reducible rfl
  simp only[zuI]
 refine zbZ (by rw[hY];rfl) (by go_simp;first|with_reducible exact⟨rfl,rfl⟩|with_reducible rfl) (hk5) ?_;simp only[zuI];refine yE (hF.out _ _ (fun K hK=> ?_));clear hF hY;have hB5:=zA B1 hk5.1;go_wp2_with fail;refine OnlyK.mk (hK.out _ _ ?_);clear hK hk2 hk3 hk4 hk5;go_wp2;go_returns;exact⟨rfl,hB5⟩
theorem ztS(c:S14.C)(N:S14.N)(L:NLay)(k:Nat)(b:Value)(hb:b.oneCell'=true)(p:S14.P)(y:Lay)(w:World)(hN:NIs N L w)(hp:N.parts[k]? = some p)(hy:L.ys[k]? = some y)(pt:Nat)(hpt:N.part=(pt:Int))(h1:1≤pt)(h2:pt≤255)
 (hck:S10.check p.sb p.sd=0) (hl:p.ctrs.length=215) :
 Calls Tryz.prog 146 #[CV c,VV N L k b] w fun e w'=>e = .returned (.int .i64 (S14.probe p (S10.getN p.sb p.sd p.slot (S14.node pt:Nat)).toNat))∧Below w.heap.size w w':=by
 have hk:k<N.parts.length:=(List.getElem?_eq_some_iff.1 hp).1;have hP:=hN.ps k p y hp hy;have HPt:=zB fun(W:World) (hW:Below w.heap.size w W)=>zbW N L k b hb W (hN.step hW) hk p y hp hy;have hlt:=S10.getN_lt p.slot (S14.node pt:Nat) hck hP.tab.ok;have HH:=zB fun(W:World) (hW:Below w.heap.size w W)=>zoR c N L k b hb p y W (hN.step hW) hp hy pt hpt h1 h2;obtain⟨i,hi⟩:∃i:Nat,S10.getN p.sb p.sd p.slot (S14.node pt:Nat)=(i:Int):=⟨_,(Int.toNat_of_nonneg hlt.1).symm⟩;rw[hi]at hlt HH⊢;rw[Int.toNat_natCast];have hil:i<p.ctrs.length:=by omega
 obtain⟨g,o,hga,hcs⟩:=hP.rc (fun e=>by have h1:=yS List.length e;rw[zbY]at h1;simp at h1;omega);obtain⟨h0,h1'⟩:=Cts_ix hil;have c0:=hcs _ _ h0;have c1:=hcs _ _ h1';unfold S14.probe S14.ctr;have HPr:=zB fun W=>zhA (p.ctrs.getD i (0,0)).1 (p.ctrs.getD i (0,0)).2 W;obtain⟨u,hu⟩:∃u,p.ctrs.getD i (0,0)=u:=⟨_,rfl⟩;rw[hu]at c0 c1 HPr⊢;obtain⟨u0,u1⟩:=u;simp only at c0 c1 HPr⊢;obtain⟨q,hq⟩:∃q,S08.predict u0 u1=q:=⟨_,rfl⟩;have HSt:=zB fun W=>zdI q W;rw[hq]at HPr⊢;obtain⟨R,hR⟩:∃R,S06.stretch q=R:=⟨_,rfl⟩;rw[hR]at HSt⊢;have HFd:=zB fun W=>(zdZ p y W).1;obtain⟨m,hm⟩:∃m,p.ctrs.length=m:=⟨_,rfl⟩;rw[hga,hm]at HFd;rw[hm]at hil;have hiz:(i:Int)<(m:Int):=by omega
 unfold PV at HPt;obtain⟨VP,hVP⟩:∃v,yL p y=v:=⟨_,rfl⟩;rw[hVP]at HPt HFd;unfold VV at HPt HH⊢;obtain⟨nc,hnc⟩:∃n,N.comps.length=n:=⟨_,rfl⟩;obtain⟨np,hnp⟩:∃n,N.parts.length=n:=⟨_,rfl⟩;obtain⟨nx,hnx⟩:∃n,N.ctxs.length=n:=⟨_,rfl⟩;rw[hnc,hnp,hnx,hpt]at HPt HH⊢;obtain⟨W1,hW1,k1,k2,B1⟩:=zfL w c 113 [.slice L.a1 nc L.c1,.slice L.a2 np L.c2,.slice L.a3 nx L.c3,.int .i64 (pt:Int),.int .i64 (k:Int),b];have d0:=(B1.cell (zL c0)).trans c0;have d1:=(B1.cell (zL c1)).trans c1;rw[←zbR]at d1;clear hnc hnp hnx hpt hN hp hy hk hb hVP hm hR hP h1 h2 hck hl hi hga hcs h0 h1' hu hq c0 c1 hlt;obtain⟨kind,bits,limit,rate,first,second⟩:=c;unfold CV at HH⊢;unfold zZ at HH k1 hW1⊢;simp only at HH k1 hW1⊢;have hCS:Cells W1 [(⟨w.heap.size+1,0,none⟩,.slice L.a1 nc L.c1),(⟨w.heap.size+1,1,none⟩,.slice L.a2 np L.c2),(⟨w.heap.size+1,2,none⟩,.slice L.a3 nx L.c3),(⟨w.heap.size+1,3,none⟩,.int .i64 (pt:Int)),(⟨w.heap.size+1,4,none⟩,.int .i64 (k:Int)),(⟨w.heap.size+1,5,none⟩,b),(⟨w.heap.size,0,none⟩,.int .i64 kind),(⟨w.heap.size,1,none⟩,.int .i64 bits),(⟨w.heap.size,2,none⟩,.int .i64 limit),(⟨w.heap.size,3,none⟩,.int .i64 rate),(⟨w.heap.size,4,none⟩,.int .i64 first),(⟨w.heap.size,5,none⟩,.int .i64 second),(⟨g,o+i*2,none⟩,.int .i64 u0),(⟨g,o+i*2+1,none⟩,.int .i64 u1)]:=⟨k2.cell 0,k2.cell 1,k2.cell 2,k2.cell 3,k2.cell 4,k2.cell 5,k1.cell 0,k1.cell 1,k1.cell 2,k1.cell 3,k1.cell 4,k1.cell 5,d0,d1,yF⟩;go_enter Tryz.func146,Tryz.ntmps146;go_wp2_with (rw[hW1]);refine zuL 10 1 [(U,[U,zuH,zuH,U,U]),(zuH,[zuH,U]),(U,[zuH,zuH,U]),(zuH,[zuH,zuH,zuH,zuH,zuH,U]),(U,[zuH,zuH,zuH,zuH,zuH,zuH,U,U]),(zuH,[zuH,zuH,zuH,zuH,zuH,zuH,zuH,zuH,U]),(zuH,[zuH,zuH,zuH,zuH,zuH,zuH,zuH,zuH,zuH,U])] (Keeps W1 [(⟨w.heap.size+1,0,none⟩,.slice L.a1 nc L.c1),(⟨w.heap.size+1,1,none⟩,.slice L.a2 np L.c2),(⟨w.heap.size+1,2,none⟩,.slice L.a3 nx L.c3),(⟨w.heap.size+1,3,none⟩,.int .i64 (pt:Int)),(⟨w.heap.size+1,4,none⟩,.int .i64 (k:Int)),(⟨w.heap.size+1,5,none⟩,b),(⟨w.heap.size,0,none⟩,.int .i64 kind),(⟨w.heap.size,1,none⟩,.int .i64 bits),(⟨w.heap.size,2,none⟩,.int .i64 limit),(⟨w.heap.size,3,none⟩,.int .i64 rate),(⟨w.heap.size,4,none⟩,.int .i64 first),(⟨w.heap.size,5,none⟩,.int .i64 second),(⟨g,o+i*2,none⟩,.int .i64 u0),(⟨g,o+i*2+1,none⟩,.int .i64 u1)]) (by kernel_rfl) (Keeps.start hCS) (fun Y Q4 F4 hY hF=> ?_);simp only[zuJ]
 repeat
  apply zJ (by rw[hY];rfl)
  ·intro w2 hS2;(try simp only[Keeps,Cells]at hS2);go_simp;with_reducible rfl
  simp only[zuI]
 apply zR (by rw[hY];rfl)
 ·go_simp;with_reducible exact⟨rfl,rfl⟩
 refine(HPt.out _ (zA B1 (Keeps.start hCS).1)).mono ?_;rintro e w2 ⟨rfl,hb2⟩;have hk2:=(Keeps.start hCS).step hb2;refine⟨_,rfl,hk2,?_⟩;simp only[zuI];have hfd:=HFd.out
 repeat
  apply zJ (by rw[hY];rfl)
  ·intro w2 hS2;(try simp only[Keeps,Cells]at hS2);go_simp;with_reducible rfl
  simp only[zuI]
 apply zR (by rw[hY];rfl)
 ·go_simp;with_reducible exact⟨rfl,rfl⟩
 refine(HH.out _ (zA B1 hk2.1)).mono ?_;rintro e w3 ⟨rfl,hb3⟩;have hk3:=hk2.step hb3;refine⟨_,rfl,hk3,?_⟩;simp only[zuI]
 repeat
  apply zJ (by rw[hY];rfl)
  ·intro w2 hS2;(try simp only[Keeps,Cells]at hS2);go_simp;with_reducible rfl
  simp only[zuI]
 apply zR (by rw[hY];rfl)
 ·go_simp;with_reducible exact⟨rfl,rfl⟩
 refine(HPr.out _).mono ?_;rintro e w4 ⟨rfl,hb4⟩;have hk4:=hk3.step hb4;refine⟨_,rfl,hk4,?_⟩;simp only[zuI]
 repeat
  apply zJ (by rw[hY];rfl)
  ·intro w2 hS2;(try simp only[Keeps,Cells]at hS2);go_simp;with_reducible rfl
  simp only[zuI]
 apply zR (by rw[hY];rfl)
 ·go_simp;with_reducible exact⟨rfl,rfl⟩
 refine(HSt.out _).mono ?_;rintro e w5 ⟨rfl,hb5⟩;have hk5:=hk4.step hb5;refine⟨_,rfl,hk5,?_⟩;simp only[zuI]
 repeat
  apply zJ (by rw[hY];rfl)
  ·intro w2 hS2;(try simp only[Keeps,Cells]at hS2);go_simp;with_reducible rfl
  simp only[zuI]
 refine yE (hF.out _ _ (fun K hK=> ?_));clear hF hY;have hB5:=zA B1 hk5.1;go_wp2_with fail;refine OnlyK.mk (hK.out _ _ ?_);clear hK hk2 hk3 hk4 hk5;go_wp2;go_returns;exact⟨rfl,hB5⟩
theorem zgD{x:Int}(h1 : -9223372036854775808≤x)(h2:x≤9223372036854775807):IntKind.i64.wrap x=x:=by
 rw[zhL];omega
theorem zoX(c:S14.C)(p:S14.P)(y:Lay)(pt:Int)(n P:Nat)(hn:n≤16)(hb:c.bits=n)(hP2:2^n=P)(w:World)(hP:PIs p y w) :
 Calls Tryz.prog 220 #[CV c,PV p y,.int .i64 pt] w fun e w'=>e = .returned (.bool (S14.bare {p with ac:=[]}&&decide ((p.ac.length:Int)=33*(P:Int))&&decide (S11.check p.ac=0)))∧Below w.heap.size w w':=by
 have hp:=zpC hn;rw[hP2]at hp;have HS:=zB fun W=>zeO c n P hn hb hP2 W;have HB:=zB fun W=>zeY {p with ac:=[]} {y with a4:=none,c4:=0} W hP.mch.lh hP.mch.lb hP.mch.lc;obtain⟨am,cm,hVe,hm1,hm2,hmr⟩:=hP.apm;have hVe:Value.agg #[.slice y.a4 p.ac.length y.c4] = .agg #[.slice am p.ac.length cm]:=hVe;obtain⟨rfl,rfl⟩:y.a4=am∧y.c4=cm:=by simpa using hVe
 have HC:=zB fun(W:World) (hW:Below w.heap.size w W)=>zqN p.ac y.a4 y.c4 W (by omega) (hmr.step hW);obtain⟨W1,hW1,k1,k2,B1⟩:=zjM w c 117 p y;have c15:=k2.cell 15;have k3:=k2.set 15 (.slice none 0 0);have c15f:=k2.free 15;have hz:(yL p y).set 15 (.slice none 0 0)=yL {p with ac:=[]} {y with a4:=none,c4:=0}:=rfl;rw[hz]at k3;have hc15:(yL p y)[15]? = some (.slice y.a4 p.ac.length y.c4):=rfl;rw[hc15]at c15;unfold PV at HB⊢;unfold CV at HS⊢;obtain⟨VP,hVP⟩:∃v,yL p y=v:=⟨_,rfl⟩;obtain⟨VZ,hVZ⟩:∃v,yL {p with ac:=[]} {y with a4:=none,c4:=0}=v:=⟨_,rfl⟩;have hVZl:some 16=some VZ.length:=by rw[←hVZ];rfl
 rw[hVP]at hW1 k2⊢;rw[hVZ]at HB k3;obtain⟨q,hq⟩:∃q,S14.bare {p with ac:=[]}=q:=⟨_,rfl⟩;rw[hq]at HB⊢;obtain⟨E,hE⟩:∃q,S11.check p.ac=q:=⟨_,rfl⟩;rw[hE]at HC⊢;obtain⟨m,hm⟩:∃m,p.ac.length=m:=⟨_,rfl⟩;rw[hm]at HC c15 hm1⊢;obtain⟨kind,bits,limit,rate,first,second⟩:=c;unfold zZ at *;simp only at HS k1 hW1⊢;clear hq hE hm hb hP hVe hVP hVZ hz hc15 hmr;obtain⟨T,hT⟩:∃T:Int,33*(P:Int)=T:=⟨_,rfl⟩;have hwT:IntKind.i64.wrap (33*(P:Int))=T:=by rw[hT];exact zgD (by omega) (by omega)
 rw[hT];obtain⟨d,hd⟩:∃d,decide ((m:Int)=T)=d:=⟨_,rfl⟩;have hcmp:((m:Int)==T)=d:=by rw[←hd];rfl
 rw[hd];clear hd hT;have hW1s:W1.heap.size=w.heap.size+2:=by rw[←hW1];simp
 go_enter Tryz.func220,Tryz.ntmps220;go_wp2_with (rw[hW1]);obtain⟨W3,hW3⟩:∃W,W1.setCell ⟨w.heap.size+1,15,none⟩ (.slice none 0 0)=W:=⟨_,rfl⟩;have hW3s:W3.heap.size=w.heap.size+2:=by rw[←hW3];simp[hW1s]
 have k1':=k1.other (w.heap.size+1) 15 (.slice none 0 0) (by omega);have B3:Below w.heap.size w (W1.setCell ⟨w.heap.size+1,15,none⟩ (.slice none 0 0)):=B1.setCell (p:=⟨w.heap.size+1,15,none⟩) (by simp) _;rw[hW3]at k1' B3 k3⊢;obtain⟨W4,hW4⟩:∃W,W3.alloc (.cells #[.slice y.a4 m y.c4] 76)=W:=⟨_,rfl⟩;have k1':=k1'.alloc (.cells #[.slice y.a4 m y.c4] 76);have k3:=k3.alloc (.cells #[.slice y.a4 m y.c4] 76);have k7:=Blk.new W3 [.slice y.a4 m y.c4] 76;have B4:=B3.alloc B3.size (.cells #[.slice y.a4 m y.c4] 76);rw[hW3s,show W3.alloc (.cells [.slice y.a4 m y.c4].toArray 76)=W4 from hW4]at k7;rw[hW4]at k1' B4 k3⊢;clear hW4 hW3 hW3s B3 hW1 hW1s k1 k2 B1 c15 c15f;have hCS:Cells W4 [(⟨w.heap.size,0,none⟩,.int .i64 kind),(⟨w.heap.size,1,none⟩,.int .i64 bits),(⟨w.heap.size,2,none⟩,.int .i64 limit),(⟨w.heap.size,3,none⟩,.int .i64 rate),(⟨w.heap.size,4,none⟩,.int .i64 first),(⟨w.heap.size,5,none⟩,.int .i64 second),(⟨w.heap.size+2,0,none⟩,.slice y.a4 m y.c4)]:=⟨k1'.cell 0,k1'.cell 1,k1'.cell 2,k1'.cell 3,k1'.cell 4,k1'.cell 5,k7.cell 0,yF⟩;have HBs:=zB HB;clear HB;cases d with
 | true=>
   cases q with
   | false=>
     go_wp2_with fail;refine zuL 17 1 [(U,[U]),(zuH,[zuH,U]),(U,[zuH,zuH,U,U,U,U,U,U]),(zuH,[zuH,zuH,zuH,zuH,zuH,zuH,zuH,zuH,U]),(U,[zuH,zuH,zuH,zuH,zuH,zuH,zuH,zuH,zuH,U,U,U,U,U]),(zuH,[zuH,zuH,zuH,zuH,zuH,zuH,zuH,zuH,zuH,zuH,zuH,zuH,zuH,zuH,U]),(U,[zuH,zuH,zuH,zuH,zuH,zuH,zuH,zuH,zuH,zuH,zuH,zuH,zuH,zuH,zuH,U,U])] (Keeps W4 [(⟨w.heap.size,0,none⟩,.int .i64 kind),(⟨w.heap.size,1,none⟩,.int .i64 bits),(⟨w.heap.size,2,none⟩,.int .i64 limit),(⟨w.heap.size,3,none⟩,.int .i64 rate),(⟨w.heap.size,4,none⟩,.int .i64 first),(⟨w.heap.size,5,none⟩,.int .i64 second),(⟨w.heap.size+2,0,none⟩,.slice y.a4 m y.c4)]) (by kernel_rfl) (Keeps.start hCS) (fun Y Q4 F4 hY hF=> ?_);simp only[zuJ]
     repeat
      apply zJ (by rw[hY];rfl)
      ·intro w2 hS2;(try simp only[Keeps,Cells]at hS2);go_simp;with_reducible rfl
      simp only[zuI]
     apply zJ (by rw[hY];rfl)
     ·intro w2 hS2;exact zcV 78 (.tmp 4) (by rfl) (w.heap.size+1) (by rfl) VZ (k3.step hS2.1).cells _ Tryz.underlying78 rfl (info_P.trans hVZl)
     simp only[zuI];apply zR (by rw[hY];rfl)
     ·go_simp;with_reducible exact⟨rfl,rfl⟩
     refine(HBs.out.out _).mono ?_;rintro e w3 ⟨rfl,hb3⟩;have hk3:=(Keeps.start hCS).step hb3;refine⟨_,rfl,hk3,?_⟩;simp only[zuI]
     repeat
      apply zJ (by rw[hY];rfl)
      ·intro w2 hS2;(try simp only[Keeps,Cells]at hS2);go_simp;with_reducible rfl
      simp only[zuI]
     repeat
      first
       | (apply yV (by rw[hY];rfl);simp only[zuI])
       | (refine zaD (by rw[hY];rfl) (hk3) ?_;simp only[zuI])
     repeat
      apply zJ (by rw[hY];rfl)
      ·intro w2 hS2;(try simp only[Keeps,Cells]at hS2);go_simp;with_reducible rfl
      simp only[zuI]
     repeat
      first
       | (apply yV (by rw[hY];rfl);simp only[zuI])
       | (refine zaD (by rw[hY];rfl) (hk3) ?_;simp only[zuI])
     repeat
      apply zJ (by rw[hY];rfl)
      ·intro w2 hS2;(try simp only[Keeps,Cells]at hS2);go_simp;with_reducible rfl
      simp only[zuI]
     refine yE (hF.out _ _ (fun K hK=> ?_));clear hF hY;have B9:=zA B4 hk3.1;go_wp2_with fail;refine OnlyK.mk (hK.out _ _ ?_);clear hK;go_wp2;go_returns;exact⟨zaP (by simp),B9⟩
   | true=>
     go_wp2_with fail;refine zuL 17 1 [(U,[U]),(zuH,[zuH,U]),(U,[zuH,zuH,U,U,U,U,U,U]),(zuH,[zuH,zuH,zuH,zuH,zuH,zuH,zuH,zuH,U]),(U,[zuH,zuH,zuH,zuH,zuH,zuH,zuH,zuH,zuH,U,U,U,U,U]),(zuH,[zuH,zuH,zuH,zuH,zuH,zuH,zuH,zuH,zuH,zuH,zuH,zuH,zuH,zuH,U]),(U,[zuH,zuH,zuH,zuH,zuH,zuH,zuH,zuH,zuH,zuH,zuH,zuH,zuH,zuH,zuH,U,U])] (Keeps W4 [(⟨w.heap.size,0,none⟩,.int .i64 kind),(⟨w.heap.size,1,none⟩,.int .i64 bits),(⟨w.heap.size,2,none⟩,.int .i64 limit),(⟨w.heap.size,3,none⟩,.int .i64 rate),(⟨w.heap.size,4,none⟩,.int .i64 first),(⟨w.heap.size,5,none⟩,.int .i64 second),(⟨w.heap.size+2,0,none⟩,.slice y.a4 m y.c4)]) (by kernel_rfl) (Keeps.start hCS) (fun Y Q4 F4 hY hF=> ?_);simp only[zuJ]
     repeat
      apply zJ (by rw[hY];rfl)
      ·intro w2 hS2;(try simp only[Keeps,Cells]at hS2);go_simp;with_reducible rfl
      simp only[zuI]
     apply zJ (by rw[hY];rfl)
     ·intro w2 hS2;exact zcV 78 (.tmp 4) (by rfl) (w.heap.size+1) (by rfl) VZ (k3.step hS2.1).cells _ Tryz.underlying78 rfl (info_P.trans hVZl)
     simp only[zuI];apply zR (by rw[hY];rfl)
     ·go_simp;with_reducible exact⟨rfl,rfl⟩
     refine(HBs.out.out _).mono ?_;rintro e w3 ⟨rfl,hb3⟩;have hk3:=(Keeps.start hCS).step hb3;refine⟨_,rfl,hk3,?_⟩;simp only[zuI]
     repeat
      apply zJ (by rw[hY];rfl)
      ·intro w2 hS2;(try simp only[Keeps,Cells]at hS2);go_simp;with_reducible rfl
      simp only[zuI]
     apply zR (by rw[hY];rfl)
     ·go_simp;with_reducible exact⟨rfl,rfl⟩
     refine(HS.out _).mono ?_;rintro e w4 ⟨rfl,hb4⟩;have hk4:=hk3.step hb4;refine⟨_,rfl,hk4,?_⟩;simp only[zuI]
     repeat
      apply zJ (by rw[hY];rfl)
      ·intro w2 hS2;(try simp only[Keeps,Cells]at hS2);go_simp;with_reducible rfl
      simp only[zuI]
     apply zR (by rw[hY];rfl)
     ·go_simp;with_reducible exact⟨rfl,rfl⟩
     refine(HC.out _ (zA B4 hk4.1)).mono ?_;rintro e w5 ⟨rfl,hb5⟩;have hk5:=hk4.step hb5;refine⟨_,rfl,hk5,?_⟩;simp only[zuI]
     repeat
      apply zJ (by rw[hY];rfl)
      ·intro w2 hS2;(try simp only[Keeps,Cells]at hS2);go_simp;with_reducible rfl
      simp only[zuI]
     refine yE (hF.out _ _ (fun K hK=> ?_));clear hF hY;have B9:=zA B4 hk5.1;go_wp2_with fail;refine OnlyK.mk (hK.out _ _ ?_);clear hK;go_wp2;go_returns;exact⟨zaP (by first|(simp;done)|(simp;rfl)|rfl),B9⟩
 | false=>
   cases q with
   | false=>
     go_wp2_with fail;refine zuL 17 1 [(U,[U]),(zuH,[zuH,U]),(U,[zuH,zuH,U,U,U,U,U,U]),(zuH,[zuH,zuH,zuH,zuH,zuH,zuH,zuH,zuH,U]),(U,[zuH,zuH,zuH,zuH,zuH,zuH,zuH,zuH,zuH,U,U,U,U,U]),(zuH,[zuH,zuH,zuH,zuH,zuH,zuH,zuH,zuH,zuH,zuH,zuH,zuH,zuH,zuH,U]),(U,[zuH,zuH,zuH,zuH,zuH,zuH,zuH,zuH,zuH,zuH,zuH,zuH,zuH,zuH,zuH,U,U])] (Keeps W4 [(⟨w.heap.size,0,none⟩,.int .i64 kind),(⟨w.heap.size,1,none⟩,.int .i64 bits),(⟨w.heap.size,2,none⟩,.int .i64 limit),(⟨w.heap.size,3,none⟩,.int .i64 rate),(⟨w.heap.size,4,none⟩,.int .i64 first),(⟨w.heap.size,5,none⟩,.int .i64 second),(⟨w.heap.size+2,0,none⟩,.slice y.a4 m y.c4)]) (by kernel_rfl) (Keeps.start hCS) (fun Y Q4 F4 hY hF=> ?_);simp only[zuJ]
     repeat
      apply zJ (by rw[hY];rfl)
      ·intro w2 hS2;(try simp only[Keeps,Cells]at hS2);go_simp;with_reducible rfl
      simp only[zuI]
     apply zJ (by rw[hY];rfl)
     ·intro w2 hS2;exact zcV 78 (.tmp 4) (by rfl) (w.heap.size+1) (by rfl) VZ (k3.step hS2.1).cells _ Tryz.underlying78 rfl (info_P.trans hVZl)
     simp only[zuI];apply zR (by rw[hY];rfl)
     ·go_simp;with_reducible exact⟨rfl,rfl⟩
     refine(HBs.out.out _).mono ?_;rintro e w3 ⟨rfl,hb3⟩;have hk3:=(Keeps.start hCS).step hb3;refine⟨_,rfl,hk3,?_⟩;simp only[zuI]
     repeat
      apply zJ (by rw[hY];rfl)
      ·intro w2 hS2;(try simp only[Keeps,Cells]at hS2);go_simp;with_reducible rfl
      simp only[zuI]
     repeat
      first
       | (apply yV (by rw[hY];rfl);simp only[zuI])
       | (refine zaD (by rw[hY];rfl) (hk3) ?_;simp only[zuI])
     repeat
      apply zJ (by rw[hY];rfl)
      ·intro w2 hS2;(try simp only[Keeps,Cells]at hS2);go_simp;with_reducible rfl
      simp only[zuI]
     repeat
      first
       | (apply yV (by rw[hY];rfl);simp only[zuI])
       | (refine zaD (by rw[hY];rfl) (hk3) ?_;simp only[zuI])
     repeat
      apply zJ (by rw[hY];rfl)
      ·intro w2 hS2;(try simp only[Keeps,Cells]at hS2);go_simp;with_reducible rfl
      simp only[zuI]
     refine yE (hF.out _ _ (fun K hK=> ?_));clear hF hY;have B9:=zA B4 hk3.1;go_wp2_with fail;refine OnlyK.mk (hK.out _ _ ?_);clear hK;go_wp2;go_returns;exact⟨zaP (by simp),B9⟩
   | true=>
     go_wp2_with fail;refine zuL 17 1 [(U,[U]),(zuH,[zuH,U]),(U,[zuH,zuH,U,U,U,U,U,U]),(zuH,[zuH,zuH,zuH,zuH,zuH,zuH,zuH,zuH,U]),(U,[zuH,zuH,zuH,zuH,zuH,zuH,zuH,zuH,zuH,U,U,U,U,U]),(zuH,[zuH,zuH,zuH,zuH,zuH,zuH,zuH,zuH,zuH,zuH,zuH,zuH,zuH,zuH,U]),(U,[zuH,zuH,zuH,zuH,zuH,zuH,zuH,zuH,zuH,zuH,zuH,zuH,zuH,zuH,zuH,U,U])] (Keeps W4 [(⟨w.heap.size,0,none⟩,.int .i64 kind),(⟨w.heap.size,1,none⟩,.int .i64 bits),(⟨w.heap.size,2,none⟩,.int .i64 limit),(⟨w.heap.size,3,none⟩,.int .i64 rate),(⟨w.heap.size,4,none⟩,.int .i64 first),(⟨w.heap.size,5,none⟩,.int .i64 second),(⟨w.heap.size+2,0,none⟩,.slice y.a4 m y.c4)]) (by kernel_rfl) (Keeps.start hCS) (fun Y Q4 F4 hY hF=> ?_);simp only[zuJ]
     repeat
      apply zJ (by rw[hY];rfl)
      ·intro w2 hS2;(try simp only[Keeps,Cells]at hS2);go_simp;with_reducible rfl
      simp only[zuI]
     apply zJ (by rw[hY];rfl)
     ·intro w2 hS2;exact zcV 78 (.tmp 4) (by rfl) (w.heap.size+1) (by rfl) VZ (k3.step hS2.1).cells _ Tryz.underlying78 rfl (info_P.trans hVZl)
     simp only[zuI];apply zR (by rw[hY];rfl)
     ·go_simp;with_reducible exact⟨rfl,rfl⟩
     refine(HBs.out.out _).mono ?_;rintro e w3 ⟨rfl,hb3⟩;have hk3:=(Keeps.start hCS).step hb3;refine⟨_,rfl,hk3,?_⟩;simp only[zuI]
     repeat
      apply zJ (by rw[hY];rfl)
      ·intro w2 hS2;(try simp only[Keeps,Cells]at hS2);go_simp;with_reducible rfl
      simp only[zuI]
     apply zR (by rw[hY];rfl)
     ·go_simp;with_reducible exact⟨rfl,rfl⟩
     refine(HS.out _).mono ?_;rintro e w4 ⟨rfl,hb4⟩;have hk4:=hk3.step hb4;refine⟨_,rfl,hk4,?_⟩;simp only[zuI]
     repeat
      apply zJ (by rw[hY];rfl)
      ·intro w2 hS2;(try simp only[Keeps,Cells]at hS2);go_simp;with_reducible rfl
      simp only[zuI]
     repeat
      first
       | (apply yV (by rw[hY];rfl);simp only[zuI])
       | (refine zaD (by rw[hY];rfl) (hk4) ?_;simp only[zuI])
     repeat
      apply zJ (by rw[hY];rfl)
      ·intro w2 hS2;(try simp only[Keeps,Cells]at hS2);go_simp;with_reducible rfl
      simp only[zuI]
     refine yE (hF.out _ _ (fun K hK=> ?_));clear hF hY;have B9:=zA B4 hk4.1;go_wp2_with fail;refine OnlyK.mk (hK.out _ _ ?_);clear hK;go_wp2;go_returns;exact⟨zaP (by simp),B9⟩
theorem znJ(c:S14.C)(h:0≤c.first∧c.first≤c.second∧c.second≤9223372036854775806)(w:World):Calls Tryz.prog 196 #[CV c] w fun e w'=>e = .returned (.int .i64 (c.second-c.first+1))∧Below w.heap.size w w':=by
 obtain⟨kind,bits,limit,rate,first,second⟩:=c;unfold CV zZ;simp only at h⊢;have e1:IntKind.i64.wrap (second-first)=second-first:=zgD (by omega) (by omega);have e2:IntKind.i64.wrap (second-first+1)=second-first+1:=zgD (by omega) (by omega);go_enter Tryz.func196,Tryz.ntmps196;go_wp2;go_returns;exact⟨rfl,(zF _ _).alloc (zD _) _⟩
theorem ztK(c:S14.C)(p:S14.P)(y:Lay)(pt:Int)(n P:Nat)(hn:n≤16)(hb:c.bits=n)(hP2:2^n=P)(hfs:0≤c.first∧c.first≤c.second∧c.second≤9223372036854775806)(w:World)(hP:PIs p y w) :
 Calls Tryz.prog 200 #[CV c,PV p y,.int .i64 pt] w fun e w'=>e = .returned (.bool (S14.bare {p with mi:=0,mw:=[]}&&(p.mi==c.second-c.first+1)&&decide ((p.mw.length:Int)=(P:Int))&&decide (S13.check 16 p.mi p.mw=0)))∧Below w.heap.size w w':=by
 have hp:=zpC hn;rw[hP2]at hp;have HS:=zB fun W=>zeO c n P hn hb hP2 W;have HB:=zB fun W=>zeY {p with mi:=0,mw:=[]} {y with a3:=none,c3:=0} W hP.mch.lh hP.mch.lb hP.mch.lc;have HC:=zB fun(W:World) (hW:Below w.heap.size w W)=>zqM p.mi p.mw (.agg (MixC p y).toArray) W (hP.mix.step hW);unfold MixC at HC;obtain⟨W1,hW1,k1,k2,B1⟩:=zjM w c 116 p y;have c13:=k2.cell 13;have c14:=k2.cell 14;have c13f:=k2.free 13;have c14f:=k2.free 14;have k3:=(k2.set 13 (.int .i64 0)).set 14 (.slice none 0 0);have hz:((yL p y).set 13 (.int .i64 0)).set 14 (.slice none 0 0)=yL {p with mi:=0,mw:=[]} {y with a3:=none,c3:=0}:=rfl;rw[hz]at k3;have hc13:(yL p y)[13]? = some (.int .i64 p.mi):=rfl;have hc14:(yL p y)[14]? = some (.slice y.a3 p.mw.length y.c3):=rfl;rw[hc13]at c13;rw[hc14]at c14;unfold PV at HB⊢;unfold CV at HS⊢;obtain⟨VP,hVP⟩:∃v,yL p y=v:=⟨_,rfl⟩;obtain⟨VZ,hVZ⟩:∃v,yL {p with mi:=0,mw:=[]} {y with a3:=none,c3:=0}=v:=⟨_,rfl⟩;have hVZl:some 16=some VZ.length:=by rw[←hVZ];rfl
 rw[hVP]at hW1 k2⊢;rw[hVZ]at HB k3;obtain⟨q,hq⟩:∃q,S14.bare {p with mi:=0,mw:=[]}=q:=⟨_,rfl⟩;rw[hq]at HB⊢;obtain⟨E,hE⟩:∃q,S13.check 16 p.mi p.mw=q:=⟨_,rfl⟩;rw[hE]at HC⊢;obtain⟨m,hm⟩:∃m,p.mw.length=m:=⟨_,rfl⟩;obtain⟨mi,hmi⟩:∃m,p.mi=m:=⟨_,rfl⟩;rw[hm,hmi]at HC;rw[hm]at c14⊢;rw[hmi]at c13⊢;have HI:=zB fun W=>znJ c hfs W;unfold CV at HI;obtain⟨kind,bits,limit,rate,first,second⟩:=c;unfold zZ at *;simp only at HS HI k1 hW1⊢;obtain⟨T,hT⟩:∃T:Int,second-first+1=T:=⟨_,rfl⟩;rw[hT]at HI⊢;obtain⟨d,hd⟩:∃d,(mi==T)=d:=⟨_,rfl⟩;rw[hd];obtain⟨d2,hd2⟩:∃d,decide ((m:Int)=(P:Int))=d:=⟨_,rfl⟩;have hcmp2:((m:Int)==(P:Int))=d2:=by rw[←hd2];rfl
 rw[hd2];clear hq hE hm hb hP hVP hVZ hz hc13 hc14 hmi hT hd2 hfs hP2;have hW1s:W1.heap.size=w.heap.size+2:=by rw[←hW1];simp
 go_enter Tryz.func200,Tryz.ntmps200;go_wp2_with (rw[hW1]);obtain⟨W3,hW3⟩:∃W,(W1.setCell ⟨w.heap.size+1,13,none⟩ (.int .i64 0)).setCell ⟨w.heap.size+1,14,none⟩ (.slice none 0 0)=W:=⟨_,rfl⟩;have hW3s:W3.heap.size=w.heap.size+2:=by rw[←hW3];simp[hW1s]
 have k1':=(k1.other (w.heap.size+1) 13 (.int .i64 0) (by omega)).other (w.heap.size+1) 14 (.slice none 0 0) (by omega);have B3:Below w.heap.size w ((W1.setCell ⟨w.heap.size+1,13,none⟩ (.int .i64 0)).setCell ⟨w.heap.size+1,14,none⟩ (.slice none 0 0)):=(B1.setCell (p:=⟨w.heap.size+1,13,none⟩) (by simp) _).setCell (p:=⟨w.heap.size+1,14,none⟩) (by simp) _;rw[hW3]at k1' B3 k3⊢;obtain⟨W4,hW4⟩:∃W,W3.alloc (.cells #[.int .i64 mi,.slice y.a3 m y.c3] 74)=W:=⟨_,rfl⟩;have k1':=k1'.alloc (.cells #[.int .i64 mi,.slice y.a3 m y.c3] 74);have k3:=k3.alloc (.cells #[.int .i64 mi,.slice y.a3 m y.c3] 74);have k7:=Blk.new W3 [.int .i64 mi,.slice y.a3 m y.c3] 74;have B4:=B3.alloc B3.size (.cells #[.int .i64 mi,.slice y.a3 m y.c3] 74);rw[hW3s,show W3.alloc (.cells [.int .i64 mi,.slice y.a3 m y.c3].toArray 74)=W4 from hW4]at k7;rw[hW4]at k1' B4 k3⊢;clear hW4 hW3 hW3s B3 hW1 hW1s k1 k2 B1 c13 c13f c14 c14f;have hCS:Cells W4 [(⟨w.heap.size,0,none⟩,.int .i64 kind),(⟨w.heap.size,1,none⟩,.int .i64 bits),(⟨w.heap.size,2,none⟩,.int .i64 limit),(⟨w.heap.size,3,none⟩,.int .i64 rate),(⟨w.heap.size,4,none⟩,.int .i64 first),(⟨w.heap.size,5,none⟩,.int .i64 second),(⟨w.heap.size+2,0,none⟩,.int .i64 mi),(⟨w.heap.size+2,1,none⟩,.slice y.a3 m y.c3)]:=⟨k1'.cell 0,k1'.cell 1,k1'.cell 2,k1'.cell 3,k1'.cell 4,k1'.cell 5,k7.cell 0,k7.cell 1,yF⟩;have HBs:=zB HB;clear HB;cases q with
 | false=>
   go_wp2_with fail;refine zuL 23 1 [(U,[U]),(zuH,[zuH,U]),(U,[zuH,zuH,U,U,U,U]),(zuH,[zuH,zuH,zuH,zuH,zuH,zuH,U]),(U,[zuH,zuH,zuH,zuH,zuH,zuH,zuH,U,U,U,U,U,U,U,U]),(zuH,[zuH,zuH,zuH,zuH,zuH,zuH,zuH,zuH,zuH,zuH,zuH,zuH,zuH,zuH,zuH,U]),(U,[zuH,zuH,zuH,zuH,zuH,zuH,zuH,zuH,zuH,zuH,zuH,zuH,zuH,zuH,zuH,zuH,U,U,U,U]),(zuH,[zuH,zuH,zuH,zuH,zuH,zuH,zuH,zuH,zuH,zuH,zuH,zuH,zuH,zuH,zuH,zuH,zuH,zuH,zuH,zuH,U]),(U,[zuH,zuH,zuH,zuH,zuH,zuH,zuH,zuH,zuH,zuH,zuH,zuH,zuH,zuH,zuH,zuH,zuH,zuH,zuH,zuH,zuH,U,U])] (Keeps W4 [(⟨w.heap.size,0,none⟩,.int .i64 kind),(⟨w.heap.size,1,none⟩,.int .i64 bits),(⟨w.heap.size,2,none⟩,.int .i64 limit),(⟨w.heap.size,3,none⟩,.int .i64 rate),(⟨w.heap.size,4,none⟩,.int .i64 first),(⟨w.heap.size,5,none⟩,.int .i64 second),(⟨w.heap.size+2,0,none⟩,.int .i64 mi),(⟨w.heap.size+2,1,none⟩,.slice y.a3 m y.c3)]) (by kernel_rfl) (Keeps.start hCS) (fun Y Q4 F4 hY hF=> ?_);simp only[zuJ]
   repeat
    apply zJ (by rw[hY];rfl)
    ·intro w2 hS2;(try simp only[Keeps,Cells]at hS2);go_simp;with_reducible rfl
    simp only[zuI]
   apply zJ (by rw[hY];rfl)
   ·intro w2 hS2;exact zcV 78 (.tmp 4) (by rfl) (w.heap.size+1) (by rfl) VZ (k3.step hS2.1).cells _ Tryz.underlying78 rfl (info_P.trans hVZl)
   simp only[zuI];apply zR (by rw[hY];rfl)
   ·go_simp;with_reducible exact⟨rfl,rfl⟩
   refine(HBs.out.out _).mono ?_;rintro e w3 ⟨rfl,hb3⟩;have hk3:=(Keeps.start hCS).step hb3;refine⟨_,rfl,hk3,?_⟩;simp only[zuI]
   repeat
    apply zJ (by rw[hY];rfl)
    ·intro w2 hS2;(try simp only[Keeps,Cells]at hS2);go_simp;with_reducible rfl
    simp only[zuI]
   repeat
    first
     | (apply yV (by rw[hY];rfl);simp only[zuI])
     | (refine zaD (by rw[hY];rfl) (hk3) ?_;simp only[zuI])
   repeat
    apply zJ (by rw[hY];rfl)
    ·intro w2 hS2;(try simp only[Keeps,Cells]at hS2);go_simp;with_reducible rfl
    simp only[zuI]
   repeat
    first
     | (apply yV (by rw[hY];rfl);simp only[zuI])
     | (refine zaD (by rw[hY];rfl) (hk3) ?_;simp only[zuI])
   repeat
    apply zJ (by rw[hY];rfl)
    ·intro w2 hS2;(try simp only[Keeps,Cells]at hS2);go_simp;with_reducible rfl
    simp only[zuI]
   repeat
    first
     | (apply yV (by rw[hY];rfl);simp only[zuI])
     | (refine zaD (by rw[hY];rfl) (hk3) ?_;simp only[zuI])
   repeat
    apply zJ (by rw[hY];rfl)
    ·intro w2 hS2;(try simp only[Keeps,Cells]at hS2);go_simp;with_reducible rfl
    simp only[zuI]
   refine yE (hF.out _ _ (fun K hK=> ?_));clear hF hY;have B9:=zA B4 hk3.1;go_wp2_with fail;refine OnlyK.mk (hK.out _ _ ?_);clear hK;go_wp2;go_returns;exact⟨zaP (by first|(simp;done)|(simp;rfl)|rfl),B9⟩
 | true=>
   cases d with
   | false=>
     go_wp2_with fail;refine zuL 23 1 [(U,[U]),(zuH,[zuH,U]),(U,[zuH,zuH,U,U,U,U]),(zuH,[zuH,zuH,zuH,zuH,zuH,zuH,U]),(U,[zuH,zuH,zuH,zuH,zuH,zuH,zuH,U,U,U,U,U,U,U,U]),(zuH,[zuH,zuH,zuH,zuH,zuH,zuH,zuH,zuH,zuH,zuH,zuH,zuH,zuH,zuH,zuH,U]),(U,[zuH,zuH,zuH,zuH,zuH,zuH,zuH,zuH,zuH,zuH,zuH,zuH,zuH,zuH,zuH,zuH,U,U,U,U]),(zuH,[zuH,zuH,zuH,zuH,zuH,zuH,zuH,zuH,zuH,zuH,zuH,zuH,zuH,zuH,zuH,zuH,zuH,zuH,zuH,zuH,U]),(U,[zuH,zuH,zuH,zuH,zuH,zuH,zuH,zuH,zuH,zuH,zuH,zuH,zuH,zuH,zuH,zuH,zuH,zuH,zuH,zuH,zuH,U,U])] (Keeps W4 [(⟨w.heap.size,0,none⟩,.int .i64 kind),(⟨w.heap.size,1,none⟩,.int .i64 bits),(⟨w.heap.size,2,none⟩,.int .i64 limit),(⟨w.heap.size,3,none⟩,.int .i64 rate),(⟨w.heap.size,4,none⟩,.int .i64 first),(⟨w.heap.size,5,none⟩,.int .i64 second),(⟨w.heap.size+2,0,none⟩,.int .i64 mi),(⟨w.heap.size+2,1,none⟩,.slice y.a3 m y.c3)]) (by kernel_rfl) (Keeps.start hCS) (fun Y Q4 F4 hY hF=> ?_);simp only[zuJ]
     repeat
      apply zJ (by rw[hY];rfl)
      ·intro w2 hS2;(try simp only[Keeps,Cells]at hS2);go_simp;with_reducible rfl
      simp only[zuI]
     apply zJ (by rw[hY];rfl)
     ·intro w2 hS2;exact zcV 78 (.tmp 4) (by rfl) (w.heap.size+1) (by rfl) VZ (k3.step hS2.1).cells _ Tryz.underlying78 rfl (info_P.trans hVZl)
     simp only[zuI];apply zR (by rw[hY];rfl)
     ·go_simp;with_reducible exact⟨rfl,rfl⟩
     refine(HBs.out.out _).mono ?_;rintro e w3 ⟨rfl,hb3⟩;have hk3:=(Keeps.start hCS).step hb3;refine⟨_,rfl,hk3,?_⟩;simp only[zuI]
     repeat
      apply zJ (by rw[hY];rfl)
      ·intro w2 hS2;(try simp only[Keeps,Cells]at hS2);go_simp;with_reducible rfl
      simp only[zuI]
     apply zR (by rw[hY];rfl)
     ·go_simp;with_reducible exact⟨rfl,rfl⟩
     refine(HI.out _).mono ?_;rintro e w4 ⟨rfl,hb4⟩;have hk4:=hk3.step hb4;refine⟨_,rfl,hk4,?_⟩;simp only[zuI]
     repeat
      apply zJ (by rw[hY];rfl)
      ·intro w2 hS2;(try simp only[Keeps,Cells]at hS2);go_simp;with_reducible rfl
      simp only[zuI]
     repeat
      first
       | (apply yV (by rw[hY];rfl);simp only[zuI])
       | (refine zaD (by rw[hY];rfl) (hk4) ?_;simp only[zuI])
     repeat
      apply zJ (by rw[hY];rfl)
      ·intro w2 hS2;(try simp only[Keeps,Cells]at hS2);go_simp;with_reducible rfl
      simp only[zuI]
     repeat
      first
       | (apply yV (by rw[hY];rfl);simp only[zuI])
       | (refine zaD (by rw[hY];rfl) (hk4) ?_;simp only[zuI])
     repeat
      apply zJ (by rw[hY];rfl)
      ·intro w2 hS2;(try simp only[Keeps,Cells]at hS2);go_simp;with_reducible rfl
      simp only[zuI]
     refine yE (hF.out _ _ (fun K hK=> ?_));clear hF hY;have B9:=zA B4 hk4.1;go_wp2_with fail;refine OnlyK.mk (hK.out _ _ ?_);clear hK;go_wp2;go_returns;exact⟨zaP (by first|(simp;done)|(simp;rfl)|rfl),B9⟩
   | true=>
     cases d2 with
     | false=>
       go_wp2_with fail;refine zuL 23 1 [(U,[U]),(zuH,[zuH,U]),(U,[zuH,zuH,U,U,U,U]),(zuH,[zuH,zuH,zuH,zuH,zuH,zuH,U]),(U,[zuH,zuH,zuH,zuH,zuH,zuH,zuH,U,U,U,U,U,U,U,U]),(zuH,[zuH,zuH,zuH,zuH,zuH,zuH,zuH,zuH,zuH,zuH,zuH,zuH,zuH,zuH,zuH,U]),(U,[zuH,zuH,zuH,zuH,zuH,zuH,zuH,zuH,zuH,zuH,zuH,zuH,zuH,zuH,zuH,zuH,U,U,U,U]),(zuH,[zuH,zuH,zuH,zuH,zuH,zuH,zuH,zuH,zuH,zuH,zuH,zuH,zuH,zuH,zuH,zuH,zuH,zuH,zuH,zuH,U]),(U,[zuH,zuH,zuH,zuH,zuH,zuH,zuH,zuH,zuH,zuH,zuH,zuH,zuH,zuH,zuH,zuH,zuH,zuH,zuH,zuH,zuH,U,U])] (Keeps W4 [(⟨w.heap.size,0,none⟩,.int .i64 kind),(⟨w.heap.size,1,none⟩,.int .i64 bits),(⟨w.heap.size,2,none⟩,.int .i64 limit),(⟨w.heap.size,3,none⟩,.int .i64 rate),(⟨w.heap.size,4,none⟩,.int .i64 first),(⟨w.heap.size,5,none⟩,.int .i64 second),(⟨w.heap.size+2,0,none⟩,.int .i64 mi),(⟨w.heap.size+2,1,none⟩,.slice y.a3 m y.c3)]) (by kernel_rfl) (Keeps.start hCS) (fun Y Q4 F4 hY hF=> ?_);simp only[zuJ]
       repeat
        apply zJ (by rw[hY];rfl)
        ·intro w2 hS2;(try simp only[Keeps,Cells]at hS2);go_simp;with_reducible rfl
        simp only[zuI]
       apply zJ (by rw[hY];rfl)
       ·intro w2 hS2;exact zcV 78 (.tmp 4) (by rfl) (w.heap.size+1) (by rfl) VZ (k3.step hS2.1).cells _ Tryz.underlying78 rfl (info_P.trans hVZl)
       simp only[zuI];apply zR (by rw[hY];rfl)
       ·go_simp;with_reducible exact⟨rfl,rfl⟩
       refine(HBs.out.out _).mono ?_;rintro e w3 ⟨rfl,hb3⟩;have hk3:=(Keeps.start hCS).step hb3;refine⟨_,rfl,hk3,?_⟩;simp only[zuI]
       repeat
        apply zJ (by rw[hY];rfl)
        ·intro w2 hS2;(try simp only[Keeps,Cells]at hS2);go_simp;with_reducible rfl
        simp only[zuI]
       apply zR (by rw[hY];rfl)
       ·go_simp;with_reducible exact⟨rfl,rfl⟩
       refine(HI.out _).mono ?_;rintro e w4 ⟨rfl,hb4⟩;have hk4:=hk3.step hb4;refine⟨_,rfl,hk4,?_⟩;simp only[zuI]
       repeat
        apply zJ (by rw[hY];rfl)
        ·intro w2 hS2;(try simp only[Keeps,Cells]at hS2);go_simp;with_reducible rfl
        simp only[zuI]
       apply zR (by rw[hY];rfl)
       ·go_simp;with_reducible exact⟨rfl,rfl⟩
       refine(HS.out _).mono ?_;rintro e w5 ⟨rfl,hb5⟩;have hk5:=hk4.step hb5;refine⟨_,rfl,hk5,?_⟩;simp only[zuI]
       repeat
        apply zJ (by rw[hY];rfl)
        ·intro w2 hS2;(try simp only[Keeps,Cells]at hS2);go_simp;with_reducible rfl
        simp only[zuI]
       repeat
        first
         | (apply yV (by rw[hY];rfl);simp only[zuI])
         | (refine zaD (by rw[hY];rfl) (hk5) ?_;simp only[zuI])
       repeat
        apply zJ (by rw[hY];rfl)
        ·intro w2 hS2;(try simp only[Keeps,Cells]at hS2);go_simp;with_reducible rfl
        simp only[zuI]
       refine yE (hF.out _ _ (fun K hK=> ?_));clear hF hY;have B9:=zA B4 hk5.1;go_wp2_with fail;refine OnlyK.mk (hK.out _ _ ?_);clear hK;go_wp2;go_returns;exact⟨zaP (by first|(simp;done)|(simp;rfl)|rfl),B9⟩
     | true=>
       go_wp2_with fail;refine zuL 23 1 [(U,[U]),(zuH,[zuH,U]),(U,[zuH,zuH,U,U,U,U]),(zuH,[zuH,zuH,zuH,zuH,zuH,zuH,U]),(U,[zuH,zuH,zuH,zuH,zuH,zuH,zuH,U,U,U,U,U,U,U,U]),(zuH,[zuH,zuH,zuH,zuH,zuH,zuH,zuH,zuH,zuH,zuH,zuH,zuH,zuH,zuH,zuH,U]),(U,[zuH,zuH,zuH,zuH,zuH,zuH,zuH,zuH,zuH,zuH,zuH,zuH,zuH,zuH,zuH,zuH,U,U,U,U]),(zuH,[zuH,zuH,zuH,zuH,zuH,zuH,zuH,zuH,zuH,zuH,zuH,zuH,zuH,zuH,zuH,zuH,zuH,zuH,zuH,zuH,U]),(U,[zuH,zuH,zuH,zuH,zuH,zuH,zuH,zuH,zuH,zuH,zuH,zuH,zuH,zuH,zuH,zuH,zuH,zuH,zuH,zuH,zuH,U,U])] (Keeps W4 [(⟨w.heap.size,0,none⟩,.int .i64 kind),(⟨w.heap.size,1,none⟩,.int .i64 bits),(⟨w.heap.size,2,none⟩,.int .i64 limit),(⟨w.heap.size,3,none⟩,.int .i64 rate),(⟨w.heap.size,4,none⟩,.int .i64 first),(⟨w.heap.size,5,none⟩,.int .i64 second),(⟨w.heap.size+2,0,none⟩,.int .i64 mi),(⟨w.heap.size+2,1,none⟩,.slice y.a3 m y.c3)]) (by kernel_rfl) (Keeps.start hCS) (fun Y Q4 F4 hY hF=> ?_);simp only[zuJ]
       repeat
        apply zJ (by rw[hY];rfl)
        ·intro w2 hS2;(try simp only[Keeps,Cells]at hS2);go_simp;with_reducible rfl
        simp only[zuI]
       apply zJ (by rw[hY];rfl)
       ·intro w2 hS2;exact zcV 78 (.tmp 4) (by rfl) (w.heap.size+1) (by rfl) VZ (k3.step hS2.1).cells _ Tryz.underlying78 rfl (info_P.trans hVZl)
       simp only[zuI];apply zR (by rw[hY];rfl)
       ·go_simp;with_reducible exact⟨rfl,rfl⟩
       refine(HBs.out.out _).mono ?_;rintro e w3 ⟨rfl,hb3⟩;have hk3:=(Keeps.start hCS).step hb3;refine⟨_,rfl,hk3,?_⟩;simp only[zuI]
       repeat
        apply zJ (by rw[hY];rfl)
        ·intro w2 hS2;(try simp only[Keeps,Cells]at hS2);go_simp;with_reducible rfl
        simp only[zuI]
       apply zR (by rw[hY];rfl)
       ·go_simp;with_reducible exact⟨rfl,rfl⟩
       refine(HI.out _).mono ?_;rintro e w4 ⟨rfl,hb4⟩;have hk4:=hk3.step hb4;refine⟨_,rfl,hk4,?_⟩;simp only[zuI]
       repeat
        apply zJ (by rw[hY];rfl)
        ·intro w2 hS2;(try simp only[Keeps,Cells]at hS2);go_simp;with_reducible rfl
        simp only[zuI]
       apply zR (by rw[hY];rfl)
       ·go_simp;with_reducible exact⟨rfl,rfl⟩
       refine(HS.out _).mono ?_;rintro e w5 ⟨rfl,hb5⟩;have hk5:=hk4.step hb5;refine⟨_,rfl,hk5,?_⟩;simp only[zuI]
       repeat
        apply zJ (by rw[hY];rfl)
        ·intro w2 hS2;(try simp only[Keeps,Cells]at hS2);go_simp;with_reducible rfl
        simp only[zuI]
       apply zR (by rw[hY];rfl)
       ·go_simp;with_reducible exact⟨rfl,rfl⟩
       refine(HC.out _ (zA B4 hk5.1)).mono ?_;rintro e w6 ⟨rfl,hb6⟩;have hk6:=hk5.step hb6;refine⟨_,rfl,hk6,?_⟩;simp only[zuI]
       repeat
        apply zJ (by rw[hY];rfl)
        ·intro w2 hS2;(try simp only[Keeps,Cells]at hS2);go_simp;with_reducible rfl
        simp only[zuI]
       refine yE (hF.out _ _ (fun K hK=> ?_));clear hF hY;have B9:=zA B4 hk6.1;go_wp2_with fail;refine OnlyK.mk (hK.out _ _ ?_);clear hK;go_wp2;go_returns;exact⟨zaP (by first|(simp;done)|(simp;rfl)|rfl),B9⟩
theorem Blk.there14{w:World}{b o n:Nat}{cs:List Value}{t:TypeId}(h:Blk w b cs t)(hn:o+n≤cs.length):w.there b o n:=fun j hj=>
 ⟨by rw[h.cell,zE (by omega)];rfl,h.free _⟩
theorem Blk.mid14{w:World}{b o n:Nat}{cs sub:List Value}{t:TypeId}(h:Blk w b cs t)(hs:(cs.drop o).take n=sub):w.rangeAt b o sub:=fun j v hv=>by
 rw[←hs,zbG]at hv;split at hv
 ·rw[List.getElem?_drop]at hv;rw[h.cell];exact hv
 ·cases hv
theorem info_M14:(Tryz.prog.info? 71).map (·.size)=some 9:=by kernel_rfl
theorem zpR(c:S14.C)(p:S14.P)(y:Lay)(pt:Int)(w:World)(hP:PIs p y w) :
 Calls Tryz.prog 163 #[CV c,PV p y,.int .i64 pt] w fun e w'=>e = .returned (.bool (S14.bare {p with m:=S14.zM}&&(p.m.bits==c.bits)&&(p.m.least==c.limit)&&(p.m.part==pt)&&decide (S12.check p.m=0)))∧Below w.heap.size w w':=by
 have HB:=zB fun W=>zeY {p with m:=S14.zM} {y with pl:=⟨none,0,none,0,none,0⟩} W (zcA _) (zcA _) (zcA _);have HC:=zB fun(W:World) (hW:Below w.heap.size w W)=>zfX p.m y.pl W (hP.mch.step hW);obtain⟨W1,hW1,k1,k2,B1⟩:=zjM w c 114 p y;have hra:=k2.mid14 (o:=4) (n:=9) (sub:=zbJ p.m y.pl) rfl;have hz:splice (yL p y) 4 [.int .i64 0,.int .i64 0,.slice none 0 0,.slice none 0 0,.int .i64 0,.int .i64 0,.int .i64 0,.int .i64 0,.slice none 0 0]=yL {p with m:=S14.zM} {y with pl:=⟨none,0,none,0,none,0⟩}:=rfl;have v0:(zbJ p.m y.pl)[0]? = some (.int .i64 p.m.bits):=rfl;have v1:(zbJ p.m y.pl)[1]? = some (.int .i64 p.m.least):=rfl;have v6:(zbJ p.m y.pl)[6]? = some (.int .i64 p.m.part):=rfl;have vl:some 9=some (zbJ p.m y.pl).length:=rfl;have vo:∀v∈zbJ p.m y.pl,v.oneCell'=true:=by
  intro v hv;simp only[zbJ,List.mem_cons,zdJ,or_false]at hv;rcases hv with rfl|rfl|rfl|rfl|rfl|rfl|rfl|rfl|rfl<;>rfl
 have v9:∃x2 x3 x4 x5 x7 x8:Value,zbJ p.m y.pl = [.int .i64 p.m.bits,.int .i64 p.m.least,x2,x3,x4,x5,.int .i64 p.m.part,x7,x8]:=⟨_,_,_,_,_,_,rfl⟩;unfold MV at HC;unfold PV at HB⊢;unfold CV;obtain⟨VP,hVP⟩:∃v,yL p y=v:=⟨_,rfl⟩;obtain⟨VM,hVM⟩:∃v,zbJ p.m y.pl=v:=⟨_,rfl⟩;obtain⟨VZ,hVZ⟩:∃v,yL {p with m:=S14.zM} {y with pl:=⟨none,0,none,0,none,0⟩}=v:=⟨_,rfl⟩;have hVZl:some 16=some VZ.length:=by rw[←hVZ];rfl
 have hVPl:VP.length=16:=by rw[←hVP];rfl
 rw[hVP,hVZ]at hz;rw[hVP]at hW1 k2⊢;rw[hVM]at HC hra v0 v1 v6 v9 vl vo;rw[hVZ]at HB;obtain⟨q,hq⟩:∃q,S14.bare {p with m:=S14.zM}=q:=⟨_,rfl⟩;rw[hq]at HB⊢;obtain⟨E,hE⟩:∃q,S12.check p.m=q:=⟨_,rfl⟩;rw[hE]at HC⊢;obtain⟨m1,hm1⟩:∃x,p.m.bits=x:=⟨_,rfl⟩;obtain⟨m2,hm2⟩:∃x,p.m.least=x:=⟨_,rfl⟩;obtain⟨m7,hm7⟩:∃x,p.m.part=x:=⟨_,rfl⟩;rw[hm1]at v0⊢;rw[hm2]at v1⊢;rw[hm7]at v6⊢;rw[hm1,hm2,hm7]at v9;obtain⟨x2,x3,x4,x5,x7,x8,hV9⟩:=v9;have HV9:=zB hV9;clear hV9;obtain⟨kind,bits,limit,rate,first,second⟩:=c;unfold zZ at *;simp only at k1 hW1⊢;obtain⟨d1,hd1⟩:∃d,(m1==bits)=d:=⟨_,rfl⟩;obtain⟨d2,hd2⟩:∃d,(m2==limit)=d:=⟨_,rfl⟩;obtain⟨d3,hd3⟩:∃d,(m7==pt)=d:=⟨_,rfl⟩;rw[hd1,hd2,hd3];have Hz:=zB hz;have HVPl:=zB hVPl;have HVZl:=zB hVZl;clear hz hVPl hVZl;have Hvl:=zB vl;have Hvo:=zB vo;clear hq hE hm1 hm2 hm7 hP hVP hVZ hVM vl vo;have hW1s:W1.heap.size=w.heap.size+2:=by rw[←hW1];simp
 obtain⟨W2,hW2⟩:∃W,W1.alloc (.cells #[.int .i64 0,.int .i64 0,.slice none 0 0,.slice none 0 0,.int .i64 0,.int .i64 0,.int .i64 0,.int .i64 0,.slice none 0 0] 71)=W:=⟨_,rfl⟩;have b2:Below W1.heap.size W1 W2:=by rw[←hW2];exact(zF _ _).alloc (zD _) _
 have kM:Blk W2 (w.heap.size+2) [.int .i64 0,.int .i64 0,.slice none 0 0,.slice none 0 0,.int .i64 0,.int .i64 0,.int .i64 0,.int .i64 0,.slice none 0 0] 71:=by rw[←hW2,←hW1s];exact Blk.new W1 _ _
 have k2:=k2.step b2;have k1:=k1.step b2;have B2:=zA B1 b2;clear B1;go_enter Tryz.func163,Tryz.ntmps163;go_wp2_with (first
  | (rw[hW1])
  | (refine wpList_load_mid (by rfl) 71 (.tmp 8) (by rfl) (w.heap.size+1) 4 (by rfl) VM _ hra Tryz.underlying71 rfl (info_M14.trans Hvl.out) ?_)
  | (rw[hW2,hW1s])
  | (rw[hW2])
  | (refine zT 71 (.tmp 7) (.tmp 9) (by rfl) (by rfl) (w.heap.size+2) (by rfl) VM (by rfl) _ 71 kM (info_M14.trans Hvl.out) (zK Hvl.out) Hvo.out ?_;intro s7 E7 g7 z7;clear z7;have k27:=k2.keptRow g7 (by intro e;have:=zK e;omega);have k17:=k1.keptRow g7 (by intro e;have:=zK e;omega);have hth7:s7.there (w.heap.size+1) 4 (List.toArray ([.int .i64 0,.int .i64 0,.slice none 0 0,.slice none 0 0,.int .i64 0,.int .i64 0,.int .i64 0,.int .i64 0,.slice none 0 0]:List Value)).size:=k27.there14 (o:=4) (n:=9) (by rw[HVPl.out];decide))
  | (refine wpList_store_mid (by rfl) 71 (.tmp 11) (.tmp 10) (by rfl) (w.heap.size+1) 4 (List.toArray ([.int .i64 0,.int .i64 0,.slice none 0 0,.slice none 0 0,.int .i64 0,.int .i64 0,.int .i64 0,.int .i64 0,.slice none 0 0]:List Value)) (by rfl) (by rfl) hth7 info_M14 (all_oneCell_toArray (by simp[Value.oneCell'])) ?_;have k3:=k27.setCells [.int .i64 0,.int .i64 0,.slice none 0 0,.slice none 0 0,.int .i64 0,.int .i64 0,.int .i64 0,.int .i64 0,.slice none 0 0] 4 (by rw[HVPl.out];decide);rw[Hz.out]at k3;have k18:=k17.keptRow (yZ (w.heap.size+1) [.int .i64 0,.int .i64 0,.slice none 0 0,.slice none 0 0,.int .i64 0,.int .i64 0,.int .i64 0,.int .i64 0,.slice none 0 0] 4 s7) (by intro e;have:=zK e;omega);have k78:=E7.keptRow (yZ (w.heap.size+1) [.int .i64 0,.int .i64 0,.slice none 0 0,.slice none 0 0,.int .i64 0,.int .i64 0,.int .i64 0,.int .i64 0,.slice none 0 0] 4 s7) (by intro e;have:=zK e;omega);obtain⟨W8,hW8⟩:∃W,s7.setCells (w.heap.size+1) 4 [.int .i64 0,.int .i64 0,.slice none 0 0,.slice none 0 0,.int .i64 0,.int .i64 0,.int .i64 0,.int .i64 0,.slice none 0 0]=W:=⟨_,rfl⟩;have B8:Below w.heap.size w (s7.setCells (w.heap.size+1) 4 [.int .i64 0,.int .i64 0,.slice none 0 0,.slice none 0 0,.int .i64 0,.int .i64 0,.int .i64 0,.int .i64 0,.slice none 0 0]):=(B2.trans (yG g7 (by omega) B2.size)).trans (yG (yZ (w.heap.size+1) [.int .i64 0,.int .i64 0,.slice none 0 0,.slice none 0 0,.int .i64 0,.int .i64 0,.int .i64 0,.int .i64 0,.slice none 0 0] 4 s7) (by omega) (by have:=g7.size;have:=B2.size;omega));rw[hW8]at k3 k18 k78 B8;have hW8':s7.setCells (w.heap.size+1) 4 (List.toArray ([.int .i64 0,.int .i64 0,.slice none 0 0,.slice none 0 0,.int .i64 0,.int .i64 0,.int .i64 0,.int .i64 0,.slice none 0 0]:List Value)).toList=W8:=hW8;rw[hW8'])
  | (refine yA 78 (.tmp 4) (by rfl) (by rfl) (w.heap.size+1) (by rfl) VZ 78 k3 _ Tryz.underlying78 rfl (info_P.trans HVZl.out) ?_))
 refine(HB.out _).mono ?_;rintro e w9 ⟨rfl,hb9⟩;have B9:=zA B8 hb9;have kC:=k18.step hb9;have kM9:=k78.step hb9;have e1:=kC.cell 1;have e2:=kC.cell 2;have f0:=(kM9.cell 0).trans v0;have f1:=(kM9.cell 1).trans v1;have f6:=(kM9.cell 6).trans v6;simp only[zuK]at e1 e2;clear hb9 B8 k18 k78 HB k3 k27 k17 kM k2 k1 kC hra v0 v1 v6 Hz hW1 hW2 hW8 hth7 E7 g7 b2 B2 hW8';cases q with
 | false=>
   go_wp2;go_returns;exact⟨by first|rfl|simp,B9⟩
 | true=>
   cases d1 with
   | false=>
     go_wp2;go_returns;exact⟨by first|rfl|simp,B9⟩
   | true=>
     cases d2 with
     | false=>
       go_wp2;go_returns;exact⟨by first|rfl|simp,B9⟩
     | true=>
       cases d3 with
       | false=>
         go_wp2;go_returns;exact⟨by first|rfl|simp,B9⟩
       | true=>
         have hV9:=HV9.out;rw[hV9]at kM9 HC;have g0:=kM9.cell 0;have g1:=kM9.cell 1;have g2:=kM9.cell 2;have g3:=kM9.cell 3;have g4:=kM9.cell 4;have g5:=kM9.cell 5;have g6:=kM9.cell 6;have g7:=kM9.cell 7;have g8:=kM9.cell 8;simp only[zuK]at g0 g1 g2 g3 g4 g5 g6 g7 g8;clear f0 f1 f6 hV9 HV9 kM9;go_wp2_with fail;refine(HC.out _ B9).mono ?_;rintro e w10 ⟨rfl,hb10⟩;have B10:=zA B9 hb10;go_wp2;go_returns;exact⟨zaP (by first|(simp;done)|(simp;rfl)|rfl),B10⟩
theorem zpZ(c:S14.C)(p:S14.P)(y:Lay)(pt:Int)(n P:Nat)(hn:n≤16)(hb:c.bits=n)(hP2:2^n=P)(w:World)(hP:PIs p y w) :
 Calls Tryz.prog 147 #[CV c,PV p y,.int .i64 pt] w fun e w'=>e = .returned (.bool ((decide (p.ctrs.length=215) && !p.ctrs.any (S14.badC c.limit))&&(p.sb==c.bits)&&decide (S10.check p.sb p.sd=0)&&S14.has p.slot 0 ((P:Int)-1)&&S14.bare {p with ctrs:=[],sb:=0,sd:=[],slot:=0}))∧Below w.heap.size w w':=by
 have hp:=zpC hn;rw[hP2]at hp;have HS:=zB fun W=>zeO c n P hn hb hP2 W;have HB:=zB fun W=>zeY {p with ctrs:=[],sb:=0,sd:=[],slot:=0} {y with a1:=none,c1:=0,a2:=none,c2:=0} W hP.mch.lh hP.mch.lb hP.mch.lc;have HCt:=zB fun W=>zfW W;have HT:=zB fun(W:World) (hW:Below w.heap.size w W)=>zhH p.ctrs 215 c.limit y.a1 y.c1 W (by decide) (hP.rc.step hW);have HC:=zB fun(W:World) (hW:Below w.heap.size w W)=>zfY p.sb p.sd hP.tab.ok y.a2 y.c2 hP.tab.cap W (hP.tab.rd.step hW);have HBw:=zB fun W=>zbA p.slot 0 ((P:Int)-1) W;have hwP:IntKind.i64.wrap ((P:Int)-1)=(P:Int)-1:=zgD (by omega) (by omega);obtain⟨W1,hW1,k1,k2,B1⟩:=zjM w c 113 p y;have c0:W1.cell? ⟨w.heap.size+1,0,none⟩=some (.slice y.a1 p.ctrs.length y.c1):=k2.cell 0;have c1:W1.cell? ⟨w.heap.size+1,1,none⟩=some (.int .i64 p.sb):=k2.cell 1;have c2:W1.cell? ⟨w.heap.size+1,2,none⟩=some (.slice y.a2 p.sd.length y.c2):=k2.cell 2;have c3:W1.cell? ⟨w.heap.size+1,3,none⟩=some (.int .i64 p.slot):=k2.cell 3;have hz:((((yL p y).set 0 (.slice none 0 0)).set 1 (.int .i64 0)).set 2 (.slice none 0 0)).set 3 (.int .i64 0)=yL {p with ctrs:=[],sb:=0,sd:=[],slot:=0} {y with a1:=none,c1:=0,a2:=none,c2:=0}:=rfl;unfold PV at HB⊢;unfold CV at HS⊢;obtain⟨VP,hVP⟩:∃v,yL p y=v:=⟨_,rfl⟩;obtain⟨VZ,hVZ⟩:∃v,yL {p with ctrs:=[],sb:=0,sd:=[],slot:=0} {y with a1:=none,c1:=0,a2:=none,c2:=0}=v:=⟨_,rfl⟩;have hVZl:some 16=some VZ.length:=by rw[←hVZ];rfl
 rw[hVP]at hW1 k2 hz⊢;rw[hVZ]at HB hz;obtain⟨q,hq⟩:∃q,S14.bare {p with ctrs:=[],sb:=0,sd:=[],slot:=0}=q:=⟨_,rfl⟩;rw[hq]at HB⊢;obtain⟨r,hr⟩:∃r,(decide (p.ctrs.length=215) && !p.ctrs.any (S14.badC c.limit))=r:=⟨_,rfl⟩;rw[hr]at HT⊢;obtain⟨E,hE⟩:∃q,S10.check p.sb p.sd=q:=⟨_,rfl⟩;rw[hE]at HC⊢;obtain⟨h,hh⟩:∃q,S14.has p.slot 0 ((P:Int)-1)=q:=⟨_,rfl⟩;rw[hh]at HBw⊢;obtain⟨m1,hm1⟩:∃m,p.ctrs.length=m:=⟨_,rfl⟩;obtain⟨m2,hm2⟩:∃m,p.sd.length=m:=⟨_,rfl⟩;obtain⟨sb,hsb⟩:∃m,p.sb=m:=⟨_,rfl⟩;obtain⟨sl,hsl⟩:∃m,p.slot=m:=⟨_,rfl⟩;rw[hm1]at HT c0;rw[hm2,hsb]at HC;rw[hm2]at c2;rw[hsb]at c1⊢;rw[hsl]at c3 HBw;obtain⟨kind,bits,limit,rate,first,second⟩:=c;unfold zZ at *;simp only at HS HT k1 hW1⊢;obtain⟨d1,hd1⟩:∃d,(sb==bits)=d:=⟨_,rfl⟩;have hd1':(sb != bits) = !d1:=by rw[←hd1];rfl
 obtain⟨d2,hd2⟩:∃d,decide (E=0)=d:=⟨_,rfl⟩;have hd2':(E != 0) = !d2:=by rw[←hd2];rfl
 rw[hd1,hd2];have Hz:=zB hz;have HZl:=zB hVZl;clear hq hE hr hh hm1 hm2 hsb hsl hb hP hVP hVZ hd2 hz hVZl;have hCS:Cells W1 [(⟨w.heap.size,0,none⟩,.int .i64 kind),(⟨w.heap.size,1,none⟩,.int .i64 bits),(⟨w.heap.size,2,none⟩,.int .i64 limit),(⟨w.heap.size,3,none⟩,.int .i64 rate),(⟨w.heap.size,4,none⟩,.int .i64 first),(⟨w.heap.size,5,none⟩,.int .i64 second),(⟨w.heap.size+1,0,none⟩,.slice y.a1 m1 y.c1),(⟨w.heap.size+1,1,none⟩,.int .i64 sb),(⟨w.heap.size+1,2,none⟩,.slice y.a2 m2 y.c2),(⟨w.heap.size+1,3,none⟩,.int .i64 sl)]:=⟨k1.cell 0,k1.cell 1,k1.cell 2,k1.cell 3,k1.cell 4,k1.cell 5,c0,c1,c2,c3,yF⟩;go_enter Tryz.func147,Tryz.ntmps147;go_wp2_with (rw[hW1]);cases r with
 | false=>
   go_wp2_with fail;refine zuL 33 0 [(U,[U,U,zuH,U,U,U]),(zuH,[zuH,zuH,U]),(zuH,[zuH,zuH,zuH,zuH,zuH,zuH,U]),(U,[zuH,zuH,zuH,zuH,zuH,zuH,zuH,U,U,U,U,U,U,U,U,U,U,U,U,U]),(zuH,[zuH,zuH,zuH,zuH,zuH,zuH,zuH,zuH,zuH,zuH,zuH,zuH,zuH,zuH,zuH,zuH,zuH,zuH,zuH,zuH,U]),(U,[zuH,zuH,zuH,zuH,zuH,zuH,zuH,zuH,zuH,zuH,zuH,zuH,zuH,zuH,zuH,zuH,zuH,zuH,zuH,zuH,zuH,U,U,U,U,U,U,U]),(zuH,[zuH,zuH,zuH,zuH,zuH,zuH,zuH,zuH,zuH,zuH,zuH,zuH,zuH,zuH,zuH,zuH,zuH,zuH,zuH,zuH,zuH,zuH,zuH,zuH,zuH,zuH,zuH,zuH,U]),(U,[zuH,zuH,zuH,zuH,zuH,zuH,zuH,zuH,zuH,zuH,zuH,zuH,zuH,zuH,zuH,zuH,zuH,zuH,zuH,zuH,zuH,zuH,zuH,zuH,zuH,zuH,zuH,zuH,zuH,U]),(zuH,[zuH,zuH,zuH,zuH,zuH,zuH,zuH,zuH,zuH,zuH,zuH,zuH,zuH,zuH,zuH,zuH,zuH,zuH,zuH,zuH,zuH,zuH,zuH,zuH,zuH,zuH,zuH,zuH,zuH,zuH,U]),(U,[zuH,zuH,zuH,zuH,zuH,zuH,zuH,zuH,zuH,zuH,zuH,zuH,zuH,zuH,zuH,zuH,zuH,zuH,zuH,zuH,zuH,zuH,zuH,zuH,zuH,zuH,zuH,zuH,zuH,zuH,zuH,U,U])] (Keeps W1 [(⟨w.heap.size,0,none⟩,.int .i64 kind),(⟨w.heap.size,1,none⟩,.int .i64 bits),(⟨w.heap.size,2,none⟩,.int .i64 limit),(⟨w.heap.size,3,none⟩,.int .i64 rate),(⟨w.heap.size,4,none⟩,.int .i64 first),(⟨w.heap.size,5,none⟩,.int .i64 second),(⟨w.heap.size+1,0,none⟩,.slice y.a1 m1 y.c1),(⟨w.heap.size+1,1,none⟩,.int .i64 sb),(⟨w.heap.size+1,2,none⟩,.slice y.a2 m2 y.c2),(⟨w.heap.size+1,3,none⟩,.int .i64 sl)]) (by kernel_rfl) (Keeps.start hCS) (fun Y Q4 F4 hY hF=> ?_);simp only[zuJ]
   repeat
    apply zJ (by rw[hY];rfl)
    ·intro w2 hS2;(try simp only[Keeps,Cells]at hS2);go_simp;with_reducible rfl
    simp only[zuI]
   apply zR (by rw[hY];rfl)
   ·go_simp;with_reducible exact⟨rfl,rfl⟩
   refine(HCt.out _).mono ?_;rintro e w2 ⟨rfl,hb2⟩;have hk2:=(Keeps.start hCS).step hb2;refine⟨_,rfl,hk2,?_⟩;simp only[zuI]
   repeat
    apply zJ (by rw[hY];rfl)
    ·intro w2 hS2;(try simp only[Keeps,Cells]at hS2);go_simp;with_reducible rfl
    simp only[zuI]
   apply zR (by rw[hY];rfl)
   ·go_simp;with_reducible exact⟨rfl,rfl⟩
   refine(HT.out _ (zA B1 hk2.1)).mono ?_;rintro e w3 ⟨rfl,hb3⟩;have hk3:=hk2.step hb3;refine⟨_,rfl,hk3,?_⟩;simp only[zuI]
   repeat
    apply zJ (by rw[hY];rfl)
    ·intro w2 hS2;(try simp only[Keeps,Cells]at hS2);go_simp;with_reducible rfl
    simp only[zuI]
   repeat
    first
     | (apply yV (by rw[hY];rfl);simp only[zuI])
     | (refine zaD (by rw[hY];rfl) (hk3) ?_;simp only[zuI])
   repeat
    apply zJ (by rw[hY];rfl)
    ·intro w2 hS2;(try simp only[Keeps,Cells]at hS2);go_simp;with_reducible rfl
    simp only[zuI]
   repeat
    first
     | (apply yV (by rw[hY];rfl);simp only[zuI])
     | (refine zaD (by rw[hY];rfl) (hk3) ?_;simp only[zuI])
   repeat
    apply zJ (by rw[hY];rfl)
    ·intro w2 hS2;(try simp only[Keeps,Cells]at hS2);go_simp;with_reducible rfl
    simp only[zuI]
   repeat
    first
     | (apply yV (by rw[hY];rfl);simp only[zuI])
     | (refine zaD (by rw[hY];rfl) (hk3) ?_;simp only[zuI])
   repeat
    apply zJ (by rw[hY];rfl)
    ·intro w2 hS2;(try simp only[Keeps,Cells]at hS2);go_simp;with_reducible rfl
    simp only[zuI]
   repeat
    first
     | (apply yV (by rw[hY];rfl);simp only[zuI])
     | (refine zaD (by rw[hY];rfl) (hk3) ?_;simp only[zuI])
   repeat
    apply zJ (by rw[hY];rfl)
    ·intro w2 hS2;(try simp only[Keeps,Cells]at hS2);go_simp;with_reducible rfl
    simp only[zuI]
   refine yE (hF.out _ _ (fun K hK=> ?_));clear hF hY;have B9:=zA B1 hk3.1;refine OnlyK.mk (hK.out _ _ ?_);clear hK;go_wp2;go_returns;exact⟨by first|rfl|simp,B9⟩
 | true=>
   cases d1 with
   | false=>
     go_wp2_with fail;refine zuL 33 0 [(U,[U,U,zuH,U,U,U]),(zuH,[zuH,zuH,U]),(zuH,[zuH,zuH,zuH,zuH,zuH,zuH,U]),(U,[zuH,zuH,zuH,zuH,zuH,zuH,zuH,U,U,U,U,U,U,U,U,U,U,U,U,U]),(zuH,[zuH,zuH,zuH,zuH,zuH,zuH,zuH,zuH,zuH,zuH,zuH,zuH,zuH,zuH,zuH,zuH,zuH,zuH,zuH,zuH,U]),(U,[zuH,zuH,zuH,zuH,zuH,zuH,zuH,zuH,zuH,zuH,zuH,zuH,zuH,zuH,zuH,zuH,zuH,zuH,zuH,zuH,zuH,U,U,U,U,U,U,U]),(zuH,[zuH,zuH,zuH,zuH,zuH,zuH,zuH,zuH,zuH,zuH,zuH,zuH,zuH,zuH,zuH,zuH,zuH,zuH,zuH,zuH,zuH,zuH,zuH,zuH,zuH,zuH,zuH,zuH,U]),(U,[zuH,zuH,zuH,zuH,zuH,zuH,zuH,zuH,zuH,zuH,zuH,zuH,zuH,zuH,zuH,zuH,zuH,zuH,zuH,zuH,zuH,zuH,zuH,zuH,zuH,zuH,zuH,zuH,zuH,U]),(zuH,[zuH,zuH,zuH,zuH,zuH,zuH,zuH,zuH,zuH,zuH,zuH,zuH,zuH,zuH,zuH,zuH,zuH,zuH,zuH,zuH,zuH,zuH,zuH,zuH,zuH,zuH,zuH,zuH,zuH,zuH,U]),(U,[zuH,zuH,zuH,zuH,zuH,zuH,zuH,zuH,zuH,zuH,zuH,zuH,zuH,zuH,zuH,zuH,zuH,zuH,zuH,zuH,zuH,zuH,zuH,zuH,zuH,zuH,zuH,zuH,zuH,zuH,zuH,U,U])] (Keeps W1 [(⟨w.heap.size,0,none⟩,.int .i64 kind),(⟨w.heap.size,1,none⟩,.int .i64 bits),(⟨w.heap.size,2,none⟩,.int .i64 limit),(⟨w.heap.size,3,none⟩,.int .i64 rate),(⟨w.heap.size,4,none⟩,.int .i64 first),(⟨w.heap.size,5,none⟩,.int .i64 second),(⟨w.heap.size+1,0,none⟩,.slice y.a1 m1 y.c1),(⟨w.heap.size+1,1,none⟩,.int .i64 sb),(⟨w.heap.size+1,2,none⟩,.slice y.a2 m2 y.c2),(⟨w.heap.size+1,3,none⟩,.int .i64 sl)]) (by kernel_rfl) (Keeps.start hCS) (fun Y Q4 F4 hY hF=> ?_);simp only[zuJ]
     repeat
      apply zJ (by rw[hY];rfl)
      ·intro w2 hS2;(try simp only[Keeps,Cells]at hS2);go_simp;with_reducible rfl
      simp only[zuI]
     apply zR (by rw[hY];rfl)
     ·go_simp;with_reducible exact⟨rfl,rfl⟩
     refine(HCt.out _).mono ?_;rintro e w2 ⟨rfl,hb2⟩;have hk2:=(Keeps.start hCS).step hb2;refine⟨_,rfl,hk2,?_⟩;simp only[zuI]
     repeat
      apply zJ (by rw[hY];rfl)
      ·intro w2 hS2;(try simp only[Keeps,Cells]at hS2);go_simp;with_reducible rfl
      simp only[zuI]
     apply zR (by rw[hY];rfl)
     ·go_simp;with_reducible exact⟨rfl,rfl⟩
     refine(HT.out _ (zA B1 hk2.1)).mono ?_;rintro e w3 ⟨rfl,hb3⟩;have hk3:=hk2.step hb3;refine⟨_,rfl,hk3,?_⟩;simp only[zuI]
     repeat
      apply zJ (by rw[hY];rfl)
      ·intro w2 hS2;(try simp only[Keeps,Cells]at hS2);go_simp;with_reducible rfl
      simp only[zuI]
     repeat
      first
       | (apply yV (by rw[hY];rfl);simp only[zuI])
       | (refine zaD (by rw[hY];rfl) (hk3) ?_;simp only[zuI])
     repeat
      apply zJ (by rw[hY];rfl)
      ·intro w2 hS2;(try simp only[Keeps,Cells]at hS2);go_simp;with_reducible rfl
      simp only[zuI]
     repeat
      first
       | (apply yV (by rw[hY];rfl);simp only[zuI])
       | (refine zaD (by rw[hY];rfl) (hk3) ?_;simp only[zuI])
     repeat
      apply zJ (by rw[hY];rfl)
      ·intro w2 hS2;(try simp only[Keeps,Cells]at hS2);go_simp;with_reducible rfl
      simp only[zuI]
     repeat
      first
       | (apply yV (by rw[hY];rfl);simp only[zuI])
       | (refine zaD (by rw[hY];rfl) (hk3) ?_;simp only[zuI])
     repeat
      apply zJ (by rw[hY];rfl)
      ·intro w2 hS2;(try simp only[Keeps,Cells]at hS2);go_simp;with_reducible rfl
      simp only[zuI]
     refine yE (hF.out _ _ (fun K hK=> ?_));clear hF hY;have B9:=zA B1 hk3.1;refine OnlyK.mk (hK.out _ _ ?_);clear hK;go_wp2;go_returns;exact⟨by first|rfl|simp,B9⟩
   | true=>
     cases d2 with
     | false=>
       go_wp2_with fail;refine zuL 33 0 [(U,[U,U,zuH,U,U,U]),(zuH,[zuH,zuH,U]),(zuH,[zuH,zuH,zuH,zuH,zuH,zuH,U]),(U,[zuH,zuH,zuH,zuH,zuH,zuH,zuH,U,U,U,U,U,U,U,U,U,U,U,U,U]),(zuH,[zuH,zuH,zuH,zuH,zuH,zuH,zuH,zuH,zuH,zuH,zuH,zuH,zuH,zuH,zuH,zuH,zuH,zuH,zuH,zuH,U]),(U,[zuH,zuH,zuH,zuH,zuH,zuH,zuH,zuH,zuH,zuH,zuH,zuH,zuH,zuH,zuH,zuH,zuH,zuH,zuH,zuH,zuH,U,U,U,U,U,U,U]),(zuH,[zuH,zuH,zuH,zuH,zuH,zuH,zuH,zuH,zuH,zuH,zuH,zuH,zuH,zuH,zuH,zuH,zuH,zuH,zuH,zuH,zuH,zuH,zuH,zuH,zuH,zuH,zuH,zuH,U]),(U,[zuH,zuH,zuH,zuH,zuH,zuH,zuH,zuH,zuH,zuH,zuH,zuH,zuH,zuH,zuH,zuH,zuH,zuH,zuH,zuH,zuH,zuH,zuH,zuH,zuH,zuH,zuH,zuH,zuH,U]),(zuH,[zuH,zuH,zuH,zuH,zuH,zuH,zuH,zuH,zuH,zuH,zuH,zuH,zuH,zuH,zuH,zuH,zuH,zuH,zuH,zuH,zuH,zuH,zuH,zuH,zuH,zuH,zuH,zuH,zuH,zuH,U]),(U,[zuH,zuH,zuH,zuH,zuH,zuH,zuH,zuH,zuH,zuH,zuH,zuH,zuH,zuH,zuH,zuH,zuH,zuH,zuH,zuH,zuH,zuH,zuH,zuH,zuH,zuH,zuH,zuH,zuH,zuH,zuH,U,U])] (Keeps W1 [(⟨w.heap.size,0,none⟩,.int .i64 kind),(⟨w.heap.size,1,none⟩,.int .i64 bits),(⟨w.heap.size,2,none⟩,.int .i64 limit),(⟨w.heap.size,3,none⟩,.int .i64 rate),(⟨w.heap.size,4,none⟩,.int .i64 first),(⟨w.heap.size,5,none⟩,.int .i64 second),(⟨w.heap.size+1,0,none⟩,.slice y.a1 m1 y.c1),(⟨w.heap.size+1,1,none⟩,.int .i64 sb),(⟨w.heap.size+1,2,none⟩,.slice y.a2 m2 y.c2),(⟨w.heap.size+1,3,none⟩,.int .i64 sl)]) (by kernel_rfl) (Keeps.start hCS) (fun Y Q4 F4 hY hF=> ?_);simp only[zuJ]
       repeat
        apply zJ (by rw[hY];rfl)
        ·intro w2 hS2;(try simp only[Keeps,Cells]at hS2);go_simp;with_reducible rfl
        simp only[zuI]
       apply zR (by rw[hY];rfl)
       ·go_simp;with_reducible exact⟨rfl,rfl⟩
       refine(HCt.out _).mono ?_;rintro e w2 ⟨rfl,hb2⟩;have hk2:=(Keeps.start hCS).step hb2;refine⟨_,rfl,hk2,?_⟩;simp only[zuI]
       repeat
        apply zJ (by rw[hY];rfl)
        ·intro w2 hS2;(try simp only[Keeps,Cells]at hS2);go_simp;with_reducible rfl
        simp only[zuI]
       apply zR (by rw[hY];rfl)
       ·go_simp;with_reducible exact⟨rfl,rfl⟩
       refine(HT.out _ (zA B1 hk2.1)).mono ?_;rintro e w3 ⟨rfl,hb3⟩;have hk3:=hk2.step hb3;refine⟨_,rfl,hk3,?_⟩;simp only[zuI]
       repeat
        apply zJ (by rw[hY];rfl)
        ·intro w2 hS2;(try simp only[Keeps,Cells]at hS2);go_simp;with_reducible rfl
        simp only[zuI]
       apply zR (by rw[hY];rfl)
       ·go_simp;with_reducible exact⟨rfl,rfl⟩
       refine(HC.out _ (zA B1 hk3.1)).mono ?_;rintro e w4 ⟨rfl,hb4⟩;have hk4:=hk3.step hb4;refine⟨_,rfl,hk4,?_⟩;simp only[zuI]
       repeat
        apply zJ (by rw[hY];rfl)
        ·intro w2 hS2;(try simp only[Keeps,Cells]at hS2);go_simp;with_reducible rfl
        simp only[zuI]
       repeat
        first
         | (apply yV (by rw[hY];rfl);simp only[zuI])
         | (refine zaD (by rw[hY];rfl) (hk4) ?_;simp only[zuI])
       repeat
        apply zJ (by rw[hY];rfl)
        ·intro w2 hS2;(try simp only[Keeps,Cells]at hS2);go_simp;with_reducible rfl
        simp only[zuI]
       repeat
        first
         | (apply yV (by rw[hY];rfl);simp only[zuI])
         | (refine zaD (by rw[hY];rfl) (hk4) ?_;simp only[zuI])
       repeat
        apply zJ (by rw[hY];rfl)
        ·intro w2 hS2;(try simp only[Keeps,Cells]at hS2);go_simp;with_reducible rfl
        simp only[zuI]
       refine yE (hF.out _ _ (fun K hK=> ?_));clear hF hY;have B9:=zA B1 hk4.1;refine OnlyK.mk (hK.out _ _ ?_);clear hK;go_wp2;go_returns;exact⟨by first|rfl|simp,B9⟩
     | true=>
       cases h with
       | false=>
         go_wp2_with fail;refine zuL 33 0 [(U,[U,U,zuH,U,U,U]),(zuH,[zuH,zuH,U]),(zuH,[zuH,zuH,zuH,zuH,zuH,zuH,U]),(U,[zuH,zuH,zuH,zuH,zuH,zuH,zuH,U,U,U,U,U,U,U,U,U,U,U,U,U]),(zuH,[zuH,zuH,zuH,zuH,zuH,zuH,zuH,zuH,zuH,zuH,zuH,zuH,zuH,zuH,zuH,zuH,zuH,zuH,zuH,zuH,U]),(U,[zuH,zuH,zuH,zuH,zuH,zuH,zuH,zuH,zuH,zuH,zuH,zuH,zuH,zuH,zuH,zuH,zuH,zuH,zuH,zuH,zuH,U,U,U,U,U,U,U]),(zuH,[zuH,zuH,zuH,zuH,zuH,zuH,zuH,zuH,zuH,zuH,zuH,zuH,zuH,zuH,zuH,zuH,zuH,zuH,zuH,zuH,zuH,zuH,zuH,zuH,zuH,zuH,zuH,zuH,U]),(U,[zuH,zuH,zuH,zuH,zuH,zuH,zuH,zuH,zuH,zuH,zuH,zuH,zuH,zuH,zuH,zuH,zuH,zuH,zuH,zuH,zuH,zuH,zuH,zuH,zuH,zuH,zuH,zuH,zuH,U]),(zuH,[zuH,zuH,zuH,zuH,zuH,zuH,zuH,zuH,zuH,zuH,zuH,zuH,zuH,zuH,zuH,zuH,zuH,zuH,zuH,zuH,zuH,zuH,zuH,zuH,zuH,zuH,zuH,zuH,zuH,zuH,U]),(U,[zuH,zuH,zuH,zuH,zuH,zuH,zuH,zuH,zuH,zuH,zuH,zuH,zuH,zuH,zuH,zuH,zuH,zuH,zuH,zuH,zuH,zuH,zuH,zuH,zuH,zuH,zuH,zuH,zuH,zuH,zuH,U,U])] (Keeps W1 [(⟨w.heap.size,0,none⟩,.int .i64 kind),(⟨w.heap.size,1,none⟩,.int .i64 bits),(⟨w.heap.size,2,none⟩,.int .i64 limit),(⟨w.heap.size,3,none⟩,.int .i64 rate),(⟨w.heap.size,4,none⟩,.int .i64 first),(⟨w.heap.size,5,none⟩,.int .i64 second),(⟨w.heap.size+1,0,none⟩,.slice y.a1 m1 y.c1),(⟨w.heap.size+1,1,none⟩,.int .i64 sb),(⟨w.heap.size+1,2,none⟩,.slice y.a2 m2 y.c2),(⟨w.heap.size+1,3,none⟩,.int .i64 sl)]) (by kernel_rfl) (Keeps.start hCS) (fun Y Q4 F4 hY hF=> ?_);simp only[zuJ]
         repeat
          apply zJ (by rw[hY];rfl)
          ·intro w2 hS2;(try simp only[Keeps,Cells]at hS2);go_simp;with_reducible rfl
          simp only[zuI]
         apply zR (by rw[hY];rfl)
         ·go_simp;with_reducible exact⟨rfl,rfl⟩
         refine(HCt.out _).mono ?_;rintro e w2 ⟨rfl,hb2⟩;have hk2:=(Keeps.start hCS).step hb2;refine⟨_,rfl,hk2,?_⟩;simp only[zuI]
         repeat
          apply zJ (by rw[hY];rfl)
          ·intro w2 hS2;(try simp only[Keeps,Cells]at hS2);go_simp;with_reducible rfl
          simp only[zuI]
         apply zR (by rw[hY];rfl)
         ·go_simp;with_reducible exact⟨rfl,rfl⟩
         refine(HT.out _ (zA B1 hk2.1)).mono ?_;rintro e w3 ⟨rfl,hb3⟩;have hk3:=hk2.step hb3;refine⟨_,rfl,hk3,?_⟩;simp only[zuI]
         repeat
          apply zJ (by rw[hY];rfl)
          ·intro w2 hS2;(try simp only[Keeps,Cells]at hS2);go_simp;with_reducible rfl
          simp only[zuI]
         apply zR (by rw[hY];rfl)
         ·go_simp;with_reducible exact⟨rfl,rfl⟩
         refine(HC.out _ (zA B1 hk3.1)).mono ?_;rintro e w4 ⟨rfl,hb4⟩;have hk4:=hk3.step hb4;refine⟨_,rfl,hk4,?_⟩;simp only[zuI]
         repeat
          apply zJ (by rw[hY];rfl)
          ·intro w2 hS2;(try simp only[Keeps,Cells]at hS2);go_simp;with_reducible rfl
          simp only[zuI]
         apply zR (by rw[hY];rfl)
         ·go_simp;with_reducible exact⟨rfl,rfl⟩
         refine(HS.out _).mono ?_;rintro e w5 ⟨rfl,hb5⟩;have hk5:=hk4.step hb5;refine⟨_,rfl,hk5,?_⟩;simp only[zuI]
         repeat
          apply zJ (by rw[hY];rfl)
          ·intro w2 hS2;(try simp only[Keeps,Cells]at hS2);go_simp;with_reducible rfl
          simp only[zuI]
         apply zR (by rw[hY];rfl)
         ·go_simp;with_reducible exact⟨rfl,rfl⟩
         refine(HBw.out _).mono ?_;rintro e w6 ⟨rfl,hb6⟩;have hk6:=hk5.step hb6;refine⟨_,rfl,hk6,?_⟩;simp only[zuI]
         repeat
          apply zJ (by rw[hY];rfl)
          ·intro w2 hS2;(try simp only[Keeps,Cells]at hS2);go_simp;with_reducible rfl
          simp only[zuI]
         refine yE (hF.out _ _ (fun K hK=> ?_));clear hF hY;have B9:=zA B1 hk6.1;refine OnlyK.mk (hK.out _ _ ?_);clear hK;go_wp2;go_returns;exact⟨by first|rfl|simp,B9⟩
       | true=>
         go_wp2_with fail;refine zuL 33 0 [(U,[U,U,zuH,U,U,U]),(zuH,[zuH,zuH,U]),(zuH,[zuH,zuH,zuH,zuH,zuH,zuH,U]),(U,[zuH,zuH,zuH,zuH,zuH,zuH,zuH,U,U,U,U,U,U,U,U,U,U,U,U,U]),(zuH,[zuH,zuH,zuH,zuH,zuH,zuH,zuH,zuH,zuH,zuH,zuH,zuH,zuH,zuH,zuH,zuH,zuH,zuH,zuH,zuH,U]),(U,[zuH,zuH,zuH,zuH,zuH,zuH,zuH,zuH,zuH,zuH,zuH,zuH,zuH,zuH,zuH,zuH,zuH,zuH,zuH,zuH,zuH,U,U,U,U,U,U,U]),(zuH,[zuH,zuH,zuH,zuH,zuH,zuH,zuH,zuH,zuH,zuH,zuH,zuH,zuH,zuH,zuH,zuH,zuH,zuH,zuH,zuH,zuH,zuH,zuH,zuH,zuH,zuH,zuH,zuH,U]),(U,[zuH,zuH,zuH,zuH,zuH,zuH,zuH,zuH,zuH,zuH,zuH,zuH,zuH,zuH,zuH,zuH,zuH,zuH,zuH,zuH,zuH,zuH,zuH,zuH,zuH,zuH,zuH,zuH,zuH,U]),(zuH,[zuH,zuH,zuH,zuH,zuH,zuH,zuH,zuH,zuH,zuH,zuH,zuH,zuH,zuH,zuH,zuH,zuH,zuH,zuH,zuH,zuH,zuH,zuH,zuH,zuH,zuH,zuH,zuH,zuH,zuH,U]),(U,[zuH,zuH,zuH,zuH,zuH,zuH,zuH,zuH,zuH,zuH,zuH,zuH,zuH,zuH,zuH,zuH,zuH,zuH,zuH,zuH,zuH,zuH,zuH,zuH,zuH,zuH,zuH,zuH,zuH,zuH,zuH,U,U])] (Keeps W1 [(⟨w.heap.size,0,none⟩,.int .i64 kind),(⟨w.heap.size,1,none⟩,.int .i64 bits),(⟨w.heap.size,2,none⟩,.int .i64 limit),(⟨w.heap.size,3,none⟩,.int .i64 rate),(⟨w.heap.size,4,none⟩,.int .i64 first),(⟨w.heap.size,5,none⟩,.int .i64 second),(⟨w.heap.size+1,0,none⟩,.slice y.a1 m1 y.c1),(⟨w.heap.size+1,1,none⟩,.int .i64 sb),(⟨w.heap.size+1,2,none⟩,.slice y.a2 m2 y.c2),(⟨w.heap.size+1,3,none⟩,.int .i64 sl)]) (by kernel_rfl) (Keeps.start hCS) (fun Y Q4 F4 hY hF=> ?_);simp only[zuJ]
         repeat
          apply zJ (by rw[hY];rfl)
          ·intro w2 hS2;(try simp only[Keeps,Cells]at hS2);go_simp;with_reducible rfl
          simp only[zuI]
         apply zR (by rw[hY];rfl)
         ·go_simp;with_reducible exact⟨rfl,rfl⟩
         refine(HCt.out _).mono ?_;rintro e w2 ⟨rfl,hb2⟩;have hk2:=(Keeps.start hCS).step hb2;refine⟨_,rfl,hk2,?_⟩;simp only[zuI]
         repeat
          apply zJ (by rw[hY];rfl)
          ·intro w2 hS2;(try simp only[Keeps,Cells]at hS2);go_simp;with_reducible rfl
          simp only[zuI]
         apply zR (by rw[hY];rfl)
         ·go_simp;with_reducible exact⟨rfl,rfl⟩
         refine(HT.out _ (zA B1 hk2.1)).mono ?_;rintro e w3 ⟨rfl,hb3⟩;have hk3:=hk2.step hb3;refine⟨_,rfl,hk3,?_⟩;simp only[zuI]
         repeat
          apply zJ (by rw[hY];rfl)
          ·intro w2 hS2;(try simp only[Keeps,Cells]at hS2);go_simp;with_reducible rfl
          simp only[zuI]
         apply zR (by rw[hY];rfl)
         ·go_simp;with_reducible exact⟨rfl,rfl⟩
         refine(HC.out _ (zA B1 hk3.1)).mono ?_;rintro e w4 ⟨rfl,hb4⟩;have hk4:=hk3.step hb4;refine⟨_,rfl,hk4,?_⟩;simp only[zuI]
         repeat
          apply zJ (by rw[hY];rfl)
          ·intro w2 hS2;(try simp only[Keeps,Cells]at hS2);go_simp;with_reducible rfl
          simp only[zuI]
         apply zR (by rw[hY];rfl)
         ·go_simp;with_reducible exact⟨rfl,rfl⟩
         refine(HS.out _).mono ?_;rintro e w5 ⟨rfl,hb5⟩;have hk5:=hk4.step hb5;refine⟨_,rfl,hk5,?_⟩;simp only[zuI]
         repeat
          apply zJ (by rw[hY];rfl)
          ·intro w2 hS2;(try simp only[Keeps,Cells]at hS2);go_simp;with_reducible rfl
          simp only[zuI]
         apply zR (by rw[hY];rfl)
         ·go_simp;with_reducible exact⟨rfl,rfl⟩
         refine(HBw.out _).mono ?_;rintro e w6 ⟨rfl,hb6⟩;have hk6:=hk5.step hb6;refine⟨_,rfl,hk6,?_⟩;simp only[zuI]
         repeat
          apply zJ (by rw[hY];rfl)
          ·intro w2 hS2;(try simp only[Keeps,Cells]at hS2);go_simp;with_reducible rfl
          simp only[zuI]
         refine yE (hF.out _ _ (fun K hK=> ?_));clear hF hY;have B9:=zA B1 hk6.1;refine OnlyK.mk (hK.out _ _ ?_);clear hK;have kN:=k2.step hk6.1;have kZ:=(((kN.set 0 (.slice none 0 0)).set 1 (.int .i64 0)).set 2 (.slice none 0 0)).set 3 (.int .i64 0);rw[Hz.out]at kZ;have n0:=(k2.step hk6.1).cell 0;have f0:=kN.free 0;have f1:=kN.free 1;have f2:=kN.free 2;have f3:=kN.free 3;have e0:=(hk6.1.cell (zL c0)).trans c0;have e1:=(hk6.1.cell (zL c1)).trans c1;have e2:=(hk6.1.cell (zL c2)).trans c2;have e3:=(hk6.1.cell (zL c3)).trans c3;have b0:=B9.trans (yG (zbO w6 (w.heap.size+1) 0 (.slice none 0 0)) (by omega) B9.size);have b1:=b0.trans (yG (zbO _ (w.heap.size+1) 1 (.int .i64 0)) (by omega) b0.size);have b2:=b1.trans (yG (zbO _ (w.heap.size+1) 2 (.slice none 0 0)) (by omega) b1.size);have BZ:=b2.trans (yG (zbO _ (w.heap.size+1) 3 (.int .i64 0)) (by omega) b2.size);obtain⟨WZ,hWZ⟩:∃W,(((w6.setCell ⟨w.heap.size+1,0,none⟩ (.slice none 0 0)).setCell ⟨w.heap.size+1,1,none⟩ (.int .i64 0)).setCell ⟨w.heap.size+1,2,none⟩ (.slice none 0 0)).setCell ⟨w.heap.size+1,3,none⟩ (.int .i64 0)=W:=⟨_,rfl⟩;rw[hWZ]at kZ BZ;clear b0 b1 b2 n0 kN hk2 hk3 hk4 hk5 hk6 c0 c1 c2 c3 k1 k2 hCS;go_wp2_with (first
          | (rw[hWZ])
          | (refine yA 78 (.tmp 4) (by rfl) (by rfl) (w.heap.size+1) (by rfl) VZ 78 kZ _ Tryz.underlying78 rfl (info_P.trans HZl.out) ?_))
         refine(HB.out _).mono ?_;rintro e w8 ⟨rfl,hb8⟩;have B8:=zA BZ hb8;go_wp2;go_returns;exact⟨by first|rfl|simp,B8⟩
theorem zlM(n:Nat):((2^n:Nat):Int)=(2:Int)^n:=by simp
theorem zoW(N:S14.N)(L:NLay)(w:World)(hN:NIs N L w):zfP N L w:=fun k c p y hc hok hp hy W hW=>by
 have hi:=S14.ok_is hok;have hP:=(hN.ps k p y hp hy).step hW;have hb:=zaY hi.bits.1;have hb16:c.bits.toNat≤16:=by have:=hi.bits;omega
 rcases hi.kind with h|h|h|h|h|h|h
 ·unfold zlF S14.right;rw[zO h,zO h];exact znV c p y N.part W hP
 ·unfold zlF S14.right;rw[zG (by omega),zO h,zG (by omega),zO h];exact zrM c p y N.part c.bits.toNat _ hb16 hb rfl W hP
 ·unfold zlF S14.right;rw[zG (by omega),zG (by omega),zO h,zG (by omega),zG (by omega),zO h];have H:=zpZ c p y N.part c.bits.toNat _ hb16 hb rfl W hP;rw[zlM]at H;exact H
 ·unfold zlF S14.right;rw[zG (by omega),zG (by omega),zG (by omega),zO h,zG (by omega),zG (by omega),zG (by omega),zO h];exact zpR c p y N.part W hP
 ·unfold zlF S14.right;rw[zG (by omega),zG (by omega),zG (by omega),zG (by omega),zO h,zG (by omega),zG (by omega),zG (by omega),zG (by omega),zO h];exact zqU c p y N.part W hP
 ·have hm:=hi.mix h;unfold zlF S14.right;rw[zG (by omega),zG (by omega),zG (by omega),zG (by omega),zG (by omega),zO h,zG (by omega),zG (by omega),zG (by omega),zG (by omega),zG (by omega),zO h];have H:=ztK c p y N.part c.bits.toNat _ hb16 hb rfl ⟨hm.1,hm.2.1,by have h1:=(List.getElem?_eq_some_iff.1 hc).1;have h2:=hN.l1;omega⟩ W hP;rw[zlM]at H;exact H
 ·unfold zlF S14.right;rw[zG (by omega),zG (by omega),zG (by omega),zG (by omega),zG (by omega),zG (by omega),zG (by omega),zG (by omega),zG (by omega),zG (by omega),zG (by omega),zG (by omega),zO h];have H:=zoX c p y N.part c.bits.toNat _ hb16 hb rfl W hP;rw[zlM]at H;exact H
def S14.outA(N:S14.N)(k:Nat)(bef:List Int):Int:=
 if(N.comps.getD k S14.zc).kind=2 then S14.probe (N.parts.getD k S14.P0) (S10.getN (N.parts.getD k S14.P0).sb (N.parts.getD k S14.P0).sd (N.parts.getD k S14.P0).slot (S14.node N.part.toNat:Nat)).toNat
 else if(N.comps.getD k S14.zc).kind=3 then S14.outM (N.parts.getD k S14.P0).m
 else if(N.comps.getD k S14.zc).kind=5 then S13.mixR (N.parts.getD k S14.P0).mi (N.parts.getD k S14.P0).mw (S14.at_ N k (N.comps.getD k S14.zc):Nat) ((bef.drop (N.comps.getD k S14.zc).first.toNat).take ((N.comps.getD k S14.zc).second.toNat+1-(N.comps.getD k S14.zc).first.toNat))
 else if(N.comps.getD k S14.zc).kind=6 then S06.stretch (S11.refineR (N.parts.getD k S14.P0).ac (S14.at_ N k (N.comps.getD k S14.zc):Nat) (S06.squash (bef.getD (N.comps.getD k S14.zc).first.toNat 0)))
 else S14.outB N k bef
theorem S13.mixR_bounds(n:Int)(L:List (List Int))(c:Int)(xs:List Int) : -3071≤S13.mixR n L c xs∧S13.mixR n L c xs≤3071:=by
 unfold S13.mixR;split
 ·unfold S13.mix;exact S06.clip_bounds _
 ·omega
theorem hist_right14{c:S14.C}{p:S14.P}{pt:Int}(h:c.kind=2)(hr:S14.right c p pt=true):S10.check p.sb p.sd=0∧p.ctrs.length=215:=by
 unfold S14.right at hr;rw[zG (by omega),zG (by omega),zO h]at hr;unfold S14.okCtrs at hr;simp only[zS,zY]at hr;exact⟨hr.1.1.2,hr.1.1.1.1.1⟩
theorem zpA{c:S14.C}{k:Int}(h:c.kind=6)(hok:S14.ok c k=true):0≤c.first∧c.first<k:=by
 unfold S14.ok at hok;rw[zG (by omega),zG (by omega),zG (by omega),zG (by omega),zG (by omega),zG (by omega),zO h]at hok;unfold S14.okRefine at hok;simp only[zS,S14.has_iff]at hok;omega
theorem out_all(N:S14.N)(L:NLay)(w:World)(hN:NIs N L w)(h0:S14.checkNet N=0):zhE N L w (S14.outA N):=fun k c hc bef a W hW hrd hlen hin=>by
 obtain⟨p,y,hp,hy,hP,hk1,hk2,hok,hr,hp1,hp2⟩:=sees14 hN h0 hc;have hi:=S14.ok_is hok;have hk16:k<16:=by
  have h1:=(List.getElem?_eq_some_iff.1 hc).1;have h2:=(S14.check_zero (S14.checkNet_zero h0).1).2.1;omega
 have hpt:=zaY (b:=N.part) (by omega);have hNW:=hN.step hW;unfold S14.outA S14.outB;rw[zeU hc,zeU hp];rcases hi.kind with h|h|h|h|h|h|h
 ·unfold OutF;rw[zO h,zG (by omega),zG (by omega),zG (by omega),zG (by omega),zO h];exact⟨const14_out c N L k _ W,S06.stretch_bounds _⟩
 ·unfold OutF;rw[zG (by omega),zO h,zG (by omega),zG (by omega),zG (by omega),zG (by omega),zG (by omega),zO h];exact⟨direct14_out c N L k _ rfl p y c.bits.toNat W hNW hc hp hy hk2 N.part.toNat hpt (by omega) (zaY hi.bits.1) (by have:=hi.bits;omega) (direct_len14 h hr),S06.stretch_bounds _⟩
 ·unfold OutF;have hh:=hist_right14 h hr;rw[zG (by omega),zG (by omega),zO h,zO h];exact⟨ztS c N L k _ rfl p y W hNW hp hy N.part.toNat hpt (by omega) (by omega) hh.1 hh.2,S06.stretch_bounds _⟩
 ·unfold OutF;rw[zG (by omega),zG (by omega),zG (by omega),zO h,zG (by omega),zO h];exact⟨ztO c N L k _ rfl p y W hNW hp hy,S14.outM_bounds _⟩
 ·unfold OutF;have hav:=average_ok14 h hok;subst hlen;rw[zG (by omega),zG (by omega),zG (by omega),zG (by omega),zO h,zG (by omega),zG (by omega),zG (by omega),zG (by omega),zG (by omega),zG (by omega)];exact⟨zuB c N L _ a _ bef W hin hav.1 hav.2.1 hav.2.2 hrd,S14.avg_in hin hav.1⟩
 ·unfold OutF;have hm:=hi.mix h;obtain⟨g,o,rfl,_⟩:=hrd (fun e=>by have h1:=yS List.length e;rw[yM,List.length_nil]at h1;omega);rw[zG (by omega),zG (by omega),zG (by omega),zG (by omega),zG (by omega),zO h,zG (by omega),zG (by omega),zO h];exact⟨mixed14_out c N L k g o p y c.bits.toNat c.first.toNat c.second.toNat bef W hNW hc hp hy hk2 N.part.toNat hpt (by omega) (zaY hi.bits.1) (by have:=hi.bits;omega) (zaY hm.1) (zaY (by omega)) (by omega) (by omega) (by omega) hlen hrd,S13.mixR_bounds _ _ _ _⟩
 ·unfold OutF;have hf:=zpA h hok;obtain⟨g,o,rfl,_⟩:=hrd (fun e=>by have h1:=yS List.length e;rw[yM,List.length_nil]at h1;omega);rw[zG (by omega),zG (by omega),zG (by omega),zG (by omega),zG (by omega),zG (by omega),zG (by omega),zG (by omega),zG (by omega),zO h];exact⟨ztC c N L k g o p y c.bits.toNat c.first.toNat bef W hNW hc hp hy hk2 N.part.toNat hpt (by omega) (zaY hi.bits.1) (by have:=hi.bits;omega) (zaY hf.1) (by omega) hlen hrd,S06.stretch_bounds _⟩
theorem MIs.rowF{m:S12.M}{p:Pl}{w w':World}{B b:Nat}(h:MIs m p w)(hf:Far B p)(hg:w.grownBy w' (some b))(hb:b<B):MIs m p w':=
 ⟨h.rdh.keptRow hg (fun g o e=>by have:=hf.1 g o e;omega),h.rdb.keptRow hg (fun g o e=>by have:=hf.2.1 g o e;omega),h.rdc.keptRow hg (fun g o e=>by have:=hf.2.2 g o e;omega),h.byt,h.cb,h.lh,h.lb,h.lc⟩
theorem MIs.keptF{m:S12.M}{p:Pl}{w w':World}{B:Nat}(h:MIs m p w)(hf:Far B p)(hk:Kept 0 B w w'):MIs m p w':=
 ⟨h.rdh.kept hk (fun g o e=>.inr (hf.1 g o e)),h.rdb.kept hk (fun g o e=>.inr (hf.2.1 g o e)),h.rdc.kept hk (fun g o e=>.inr (hf.2.2 g o e)),h.byt,h.cb,h.lh,h.lb,h.lc⟩
theorem PIs.ofM{m:S12.M}{p:Pl}{w:World}(h:MIs m p w):PIs {S14.P0 with m:=m} {zdO with pl:=p} w:=⟨Rd.nil _ _,(PIs.zero w).tab,h,(PIs.zero w).mix,(PIs.zero w).apm⟩
theorem MVals_one(m:S12.M)(p:Pl):∀v∈zbJ m p,v.oneCell'=true:=by
 intro v hv;simp only[zbJ,List.mem_cons,zdJ,or_false]at hv;rcases hv with rfl|rfl|rfl|rfl|rfl|rfl|rfl|rfl|rfl<;>rfl
theorem zpT(c:S14.C)(w:World):Calls Tryz.prog 159 #[CV c] w fun e w'=>∃y,e = .returned (PV {S14.P0 with m:=S12.newM c.bits c.limit} y)∧PRob 0 w.heap.size {S14.P0 with m:=S12.newM c.bits c.limit} y w'∧Below w.heap.size w w':=by
 have HN:=zB fun W=>new12_any c.bits c.limit W;obtain⟨W1,hW1⟩:∃W1,(w.alloc (.cells (zZ c).toArray 114)).alloc (.cells zP 78)=W1:=⟨_,rfl⟩;have k1:Blk W1 w.heap.size (zZ c) 114:=by rw[←hW1];exact(Blk.new w _ _).alloc _
 have k2:Blk W1 (w.heap.size+1) (yL S14.P0 zdO) 78:=by
  rw[←hW1];have h:=zeH (w.alloc (.cells (zZ c).toArray 114));rwa[zV]at h
 have B1:Below w.heap.size w W1:=by rw[←hW1];exact((zF _ _).alloc (zD _) _).alloc (by simp) _
 obtain⟨M,hM⟩:∃M,S12.newM c.bits c.limit=M:=⟨_,rfl⟩;rw[hM]at HN⊢;obtain⟨E,hE⟩:∃M,S12.newE c.bits c.limit=M:=⟨_,rfl⟩;rw[hE]at HN;clear hM hE;obtain⟨kind,bits,limit,rate,first,second⟩:=c;unfold CV zZ at *;simp only at *;have q1:=k1.cell 1;have q2:=k1.cell 2;simp only[zuK]at q1 q2;go_enter Tryz.func159,Tryz.ntmps159;go_wp2_with (first
  | (refine zaB 78 zP zcS (by rfl) (by rfl) ?_;rw[hW1])
  | fail)
 refine(HN.out _).mono ?_;rintro e w2 ⟨p,rfl,hI,hfar,hb2⟩;have k22:=k2.step hb2;have B2:=zA B1 hb2;have hB1:=B1.size;have hfar2:w.heap.size≤W1.heap.size:=hB1;have hl2:=k22.lt;have hone:∀v∈yL {S14.P0 with m:=M} {zdO with pl:=p},v.oneCell'=true:=zaM _ _;obtain⟨x0,x1,x2,x3,x4,x5,x6,x7,x8,hVM,hPM⟩:∃x0 x1 x2 x3 x4 x5 x6 x7 x8:Value,zbJ M p = [x0,x1,x2,x3,x4,x5,x6,x7,x8]∧yL {S14.P0 with m:=M} {zdO with pl:=p} = [.slice none 0 0,.int .i64 0,.slice none 0 0,.int .i64 0,x0,x1,x2,x3,x4,x5,x6,x7,x8,.int .i64 0,.slice none 0 0,.slice none 0 0]:=⟨_,_,_,_,_,_,_,_,_,rfl,rfl⟩;have hmo:=MVals_one M p;rw[hVM]at hmo;rw[hPM]at hone;unfold MV;rw[hVM];obtain⟨W3,hW3⟩:∃W,w2.alloc (.cells #[.int .i64 0,.int .i64 0,.slice none 0 0,.slice none 0 0,.int .i64 0,.int .i64 0,.int .i64 0,.int .i64 0,.slice none 0 0] 71)=W:=⟨_,rfl⟩;obtain⟨b3,hb3⟩:∃b,w2.heap.size=b:=⟨_,rfl⟩;have kM:Blk W3 b3 [.int .i64 0,.int .i64 0,.slice none 0 0,.slice none 0 0,.int .i64 0,.int .i64 0,.int .i64 0,.int .i64 0,.slice none 0 0] 71:=by rw[←hW3,←hb3];exact Blk.new w2 _ _
 have ba3:Below w2.heap.size w2 W3:=by rw[←hW3];exact(zF _ _).alloc (zD _) _
 have k23:=k22.step ba3;have HI:=zB hI;have hW1s:W1.heap.size=w.heap.size+2:=by rw[←hW1];simp
 have Hfar:=zB (hW1s▸hfar:Far (w.heap.size+2) p);have Hba3:=zB ba3;have B3:=zA B2 ba3;have hbw:w.heap.size+1<b3:=by rw[←hb3];exact hl2
 clear hI hfar hfar2 ba3;go_wp2_with (first
  | (rw[hW3,hb3])
  | (rw[hW3])
  | (refine zT 71 (.tmp 3) (.tmp 13) (by rfl) (by rfl) b3 (by rfl) [x0,x1,x2,x3,x4,x5,x6,x7,x8] (by rfl) _ 71 kM info_M14 rfl hmo ?_;intro s4 E4 g4 z4;clear z4;have k24:=k23.keptRow g4 (by intro e;have:=zK e;omega);have B4:=B3.trans (yG g4 (by omega) B3.size))
  | (refine yA 71 (.tmp 3) (by rfl) (by rfl) b3 (by rfl) [x0,x1,x2,x3,x4,x5,x6,x7,x8] 71 E4 _ Tryz.underlying71 rfl info_M14 ?_)
  | (refine zT 78 (.tmp 2) (.tmp 16) (by rfl) (by rfl) (w.heap.size+1) (by rfl) [.slice none 0 0,.int .i64 0,.slice none 0 0,.int .i64 0,x0,x1,x2,x3,x4,x5,x6,x7,x8,.int .i64 0,.slice none 0 0,.slice none 0 0] (by rfl) _ 78 k24 (info_P.trans rfl) rfl hone ?_;intro wL EL gL sL))
 have hL:=run_loadVar_mid wL _ 0 _ _ _ EL.cells Tryz.underlying78 rfl (info_P.trans rfl);have hI4:=HI.out.step (Hba3.out.trans (yG g4 (by omega) Hba3.out.size));have hIL:=hI4.rowF Hfar.out gL (by omega);refine bodyPost_ret (v:=.agg #[.slice none 0 0,.int .i64 0,.slice none 0 0,.int .i64 0,x0,x1,x2,x3,x4,x5,x6,x7,x8,.int .i64 0,.slice none 0 0,.slice none 0 0]) ?_ rfl ?_
 ·exact zbH (show Tryz.f159.results = #[.cell 2 78]from rfl) (p:=⟨w.heap.size+1,0,none⟩) rfl hL
 ·refine⟨{zdO with pl:=p},?_,fun w' hk=>PIs.ofM (hIL.keptF (Hfar.out.mono (by omega)) hk),B4.trans (yG gL (by omega) B4.size)⟩;unfold PV;rw[hPM]
theorem zfO{p:S14.P}(h:S14.bare p=true):p.ctrs = []∧p.sd = []∧p.mw = []∧p.ac = []∧p.m.heads = []∧p.m.bytes = []∧p.m.ctrs = []:=by
 unfold S14.bare S14.noM at h;simp only[zS,zY]at h;obtain⟨⟨⟨⟨⟨⟨⟨h1,_⟩,h3⟩,_⟩,_,h5⟩,_⟩,h7⟩,h8⟩:=h;exact⟨List.length_eq_zero_iff.1 h1,List.length_eq_zero_iff.1 h3,List.length_eq_zero_iff.1 h7,List.length_eq_zero_iff.1 h8,List.length_eq_zero_iff.1 (by omega),List.length_eq_zero_iff.1 (by omega),List.length_eq_zero_iff.1 (by omega)⟩
theorem Tab.nil14{xs:List Int}{a:Option Addr}{cap:Nat}{w w':World}(h:Tab xs a cap w)(hn:xs = []):Tab xs a cap w':=by
 subst hn;exact⟨h.ok,h.cap,Rd.nil _ _⟩
theorem MixIs.nil14{n:Int}{l:List (List Int)}{V:Value}{w w':World}(h:MixIs n l V w)(hn:l = []):MixIs n l V w':=by
 subst hn;obtain⟨R,a,cap,e1,e2,e3,e4,e5,e6⟩:=h;have hR:R = []:=List.map_eq_nil_iff.1 e1.symm;subst hR;exact⟨[],a,cap,rfl,e2,e3,e4,Rd.nil _ _,fun r hr=>by cases hr⟩
theorem MapIs.nil14{l:List Int}{V:Value}{w w':World}(h:MapIs l V w)(hn:l = []):MapIs l V w':=by
 subst hn;obtain⟨a,cap,e1,e2,e3,e4⟩:=h;exact⟨a,cap,e1,e2,e3,Rd.nil _ _⟩
theorem MIs.nil14{m:S12.M}{p:Pl}{w w':World}(h:MIs m p w)(h1:m.heads = [])(h2:m.bytes = [])(h3:m.ctrs = []):MIs m p w':=
 ⟨by rw[h1];exact Rd.nil _ _,by rw[h2];exact Rd.nil _ _,by rw[h3];exact Rd.nil _ _,h.byt,h.cb,h.lh,h.lb,h.lc⟩
theorem PIs.bare14{p:S14.P}{y:Lay}{w w':World}(h:PIs p y w)(hb:S14.bare p=true):PIs p y w':=by
 obtain⟨h1,h2,h3,h4,h5,h6,h7⟩:=zfO hb;exact⟨by rw[h1];exact Rd.nil _ _,h.tab.nil14 h2,h.mch.nil14 h5 h6 h7,h.mix.nil14 h3,h.apm.nil14 h4⟩
theorem PIs.bareM{p:S14.P}{y:Lay}{w w':World}{m:S12.M}{pl:Pl}(h:PIs p y w)(hb:S14.bare {p with m:=S14.zM}=true)(hm:MIs m pl w'):PIs {p with m:=m} {y with pl:=pl} w':=by
 obtain⟨h1,h2,h3,h4,_,_,_⟩:=zfO hb;have h1:p.ctrs = []:=h1;exact⟨by show Rd w' y.a1 (Cts p.ctrs);rw[h1];exact Rd.nil _ _,h.tab.nil14 h2,hm,h.mix.nil14 h3,h.apm.nil14 h4⟩
theorem zpS(c:S14.C)(N:S14.N)(L:NLay)(k:Nat)(b:Value)(hb:b.oneCell'=true)(p:S14.P)(y:Lay)(bit:Int)(w:World)(hN:NIs N L w)(hp:N.parts[k]? = some p)(hy:L.ys[k]? = some y)(hE:S12.bitE p.m bit=0)(hbare:S14.bare {p with m:=S14.zM}=true) :
 Calls Tryz.prog 160 #[CV c,VV N L k b,.int .i64 bit] w fun e w'=>∃y',e = .returned (.tuple #[PV {p with m:=S12.bitR p.m bit} y',.int .i64 0])∧PRob 0 w.heap.size {p with m:=S12.bitR p.m bit} y' w'∧Below w.heap.size w w':=by
 have hk:k<N.parts.length:=(List.getElem?_eq_some_iff.1 hp).1;have hP:=hN.ps k p y hp hy;have HPt:=zB fun(W:World) (hW:Below w.heap.size w W)=>zbW N L k b hb W (hN.step hW) hk p y hp hy;have HBt:=zB fun(W:World) (hW:Below w.heap.size w W)=>bit12_any p.m y.pl bit W (hP.mch.step hW);rw[hE]at HBt;obtain⟨m',hm'⟩:∃m,S12.bitR p.m bit=m:=⟨_,rfl⟩;rw[hm']at HBt⊢;have HPI:=zB fun(pl:Pl) (w':World) (hm:MIs m' pl w')=>hP.bareM hbare hm;have HPV:=zB fun(pl:Pl)=>(show yL {p with m:=m'} {y with pl:=pl}=splice (yL p y) 4 (zbJ m' pl)from rfl);obtain⟨pt,hpt⟩:∃n,N.part=n:=⟨_,rfl⟩;unfold PV VV at HPt;unfold VV CV PV;have hra0:((yL p y).drop 4).take 9=zbJ p.m y.pl:=rfl;have hVPl:(yL p y).length=16:=rfl;have hVPo:=zaM p y;have hVMl:(zbJ p.m y.pl).length=9:=rfl;obtain⟨VP,hVP⟩:∃v,yL p y=v:=⟨_,rfl⟩;obtain⟨VM,hVM⟩:∃v,zbJ p.m y.pl=v:=⟨_,rfl⟩;rw[hVP]at HPt hra0 hVPl hVPo HPV;unfold MV at HBt;rw[hVM]at HBt hra0 hVMl;have Hra0:=zB hra0;have HVPl:=zB hVPl;have HVPo:=zB hVPo;have HVMl:=zB hVMl;clear hVP hVM hP hN hp hy hk hb hra0 hVPl hVPo hVMl hm' hE hbare;obtain⟨nc,hnc⟩:∃n,N.comps.length=n:=⟨_,rfl⟩;obtain⟨np,hnp⟩:∃n,N.parts.length=n:=⟨_,rfl⟩;obtain⟨nx,hnx⟩:∃n,N.ctxs.length=n:=⟨_,rfl⟩;rw[hnc,hnp,hnx,hpt]at HPt⊢;obtain⟨W0,hW0,k1,k2,B0⟩:=zfL w c 114 [.slice L.a1 nc L.c1,.slice L.a2 np L.c2,.slice L.a3 nx L.c3,.int .i64 pt,.int .i64 (k:Int),b];have hW0s:W0.heap.size=w.heap.size+2:=by rw[←hW0];simp
 obtain⟨W1,hW1⟩:∃W,W0.alloc (.cells zP 78)=W:=⟨_,rfl⟩;have b1:Below W0.heap.size W0 W1:=by rw[←hW1];exact(zF _ _).alloc (zD _) _
 have kR:Blk W1 (w.heap.size+2) (yL S14.P0 zdO) 78:=by rw[←hW1,←hW0s];exact zeH W0
 have k2:=k2.step b1;have B1:=zA B0 b1;clear hnc hnp hnx hpt k1 B0;go_enter Tryz.func160,Tryz.ntmps160;go_wp2_with (first
  | (rw[hW0])
  | (refine zaB 78 zP zcS (by rfl) (by rfl) ?_;first|rw[hW1]|skip)
  | (refine yA 102 (.tmp 4) (by rfl) (by rfl) (w.heap.size+1) (by rfl) [.slice L.a1 nc L.c1,.slice L.a2 np L.c2,.slice L.a3 nx L.c3,.int .i64 pt,.int .i64 (k:Int),b] 102 k2 _ Tryz.underlying102 rfl zkJ ?_))
 refine(HPt.out _ B1).mono ?_;rintro e w2 ⟨rfl,hb2⟩;have B2:=zA B1 hb2;have kR:=kR.step hb2;have hR2:=kR.lt;obtain⟨b8,hb8⟩:∃x,w2.heap.size=x:=⟨_,rfl⟩;obtain⟨W3,hW3⟩:∃W,w2.alloc (.cells zP 78)=W:=⟨_,rfl⟩;have ba3:Below w2.heap.size w2 W3:=by rw[←hW3];exact(zF _ _).alloc (zD _) _
 have K8:Blk W3 b8 (yL S14.P0 zdO) 78:=by rw[←hW3,←hb8];exact zeH w2
 have kR:=kR.step ba3;have B3:=zA B2 ba3;have hR8:w.heap.size+2<b8:=by rw[←hb8];exact hR2
 clear hW0 hW1 k2 b1 B1 hb2 B2 ba3 HPt;go_wp2_with (first
  | (refine zaB 78 zP zcS (by rfl) (by rfl) ?_;rw[hW3,hb8])
  | (refine zT 78 (.tmp 8) (.tmp 12) (by rfl) (by rfl) b8 (by rfl) VP (by rfl) _ 78 K8 (info_P.trans (yS some HVPl.out.symm)) HVPl.out.symm HVPo.out ?_;intro s3 E3 g3 z3;clear z3;have hra:=E3.mid14 (o:=4) (n:=9) Hra0.out)
  | (refine wpList_load_mid (by rfl) 71 (.tmp 14) (by rfl) b8 4 (by rfl) VM _ hra Tryz.underlying71 rfl (info_M14.trans (yS some HVMl.out.symm)) ?_))
 have kR:=kR.keptRow g3 (by intro e;have:=zK e;omega);have B4:=B3.trans (yG g3 (by omega) B3.size);have hE3:=E3.lt;refine(HBt.out _ B4).mono ?_;rintro e w4 ⟨p',rfl,hI,hfar,hb4⟩;have E4:=E3.step hb4;have kR:=kR.step hb4;have B5:=zA B4 hb4;have hmo:=MVals_one m' p';have hml:(zbJ m' p').length=9:=rfl;have hPV:=HPV.out p';obtain⟨VN,hVN⟩:∃v,zbJ m' p'=v:=⟨_,rfl⟩;rw[hVN]at hmo hml hPV⊢;have Hmo:=zB hmo;have Hml:=zB hml;have HI:=zB hI;have Hfar:=zB hfar;have HpV:=zB hPV;obtain⟨b9,hb9⟩:∃x,w4.heap.size=x:=⟨_,rfl⟩;obtain⟨W5,hW5⟩:∃W,w4.alloc (.cells #[.int .i64 0,.int .i64 0,.slice none 0 0,.slice none 0 0,.int .i64 0,.int .i64 0,.int .i64 0,.int .i64 0,.slice none 0 0] 71)=W:=⟨_,rfl⟩;have ba5:Below w4.heap.size w4 W5:=by rw[←hW5];exact(zF _ _).alloc (zD _) _
 have K9:Blk W5 b9 [.int .i64 0,.int .i64 0,.slice none 0 0,.slice none 0 0,.int .i64 0,.int .i64 0,.int .i64 0,.int .i64 0,.slice none 0 0] 71:=by rw[←hW5,←hb9];exact Blk.new w4 _ _
 have hE4:=E4.lt;have h89:b8<b9:=by rw[←hb9];exact hE4
 have E5:=E4.step ba5;have kR:=kR.step ba5;have B6:=zA B5 ba5;have Hba5:=zB ba5;clear hmo hml hI hfar hPV hb4 B3 K8 g3 E3 hra E4 ba5 B5 hVN HBt hW3;go_wp2_with (first
  | (rw[hW5,hb9])
  | (rw[hW5])
  | (refine zT 71 (.tmp 9) (.tmp 18) (by rfl) (by rfl) b9 (by rfl) VN (by rfl) _ 71 K9 (info_M14.trans (yS some Hml.out.symm)) Hml.out.symm Hmo.out ?_;intro s5 F5 g5 z5;clear z5;have E6:=E5.keptRow g5 (by intro e;have:=zK e;omega);have kR6:=kR.keptRow g5 (by intro e;have:=zK e;omega);have hth:s5.there b8 4 VN.toArray.size:=by
      rw[List.size_toArray,Hml.out];exact E6.there14 (by rw[HVPl.out];decide))
  | (refine yA 71 (.tmp 9) (by rfl) (by rfl) b9 (by rfl) VN 71 F5 _ Tryz.underlying71 rfl (info_M14.trans (yS some Hml.out.symm)) ?_)
  | (refine wpList_store_mid (by rfl) 71 (.tmp 21) (.tmp 20) (by rfl) b8 4 VN.toArray (by rfl) (by rfl) hth (info_M14.trans (yS some (Hml.out.symm.trans List.size_toArray.symm))) (all_oneCell_toArray Hmo.out) ?_;have E7:=E6.setCells VN 4 (by rw[HVPl.out,Hml.out];decide);rw[←HpV.out]at E7;have kR7:=kR6.keptRow (yZ b8 VN 4 s5) (by intro e;have:=zK e;omega);obtain⟨W8,hW8⟩:∃W,s5.setCells b8 4 VN=W:=⟨_,rfl⟩;have G8:s5.grownBy W8 (some b8):=by rw[←hW8];exact yZ b8 VN 4 s5
     rw[hW8]at E7 kR7;have hW8':s5.setCells b8 4 VN.toArray.toList=W8:=hW8;rw[hW8'])
  | (refine yA 78 (.tmp 8) (by rfl) (by rfl) b8 (by rfl) (yL {p with m:=m'} {y with pl:=p'}) 78 E7 _ Tryz.underlying78 rfl (info_P.trans rfl) ?_)
  | (refine zT 78 (.tmp 6) (.tmp 22) (by rfl) (by rfl) (w.heap.size+2) (by rfl) (yL {p with m:=m'} {y with pl:=p'}) (by rfl) _ 78 kR7 (info_P.trans rfl) rfl (zaM _ _) ?_;intro wL EL gL sL))
 have hL:=run_loadVar_mid wL _ 0 _ _ _ EL.cells Tryz.underlying78 rfl (info_P.trans rfl);have hI5:=HI.out.step (Hba5.out.trans (yG g5 (by omega) Hba5.out.size));have hI8:=hI5.rowF Hfar.out G8 hE3;have hIL:=hI8.rowF Hfar.out gL (by omega);have B7:=B6.trans (yG g5 (by omega) B6.size);have B8:=B7.trans (yG G8 (by omega) B7.size);refine bodyPost_ret (v:=.tuple #[.agg (yL {p with m:=m'} {y with pl:=p'}).toArray,.int .i64 0]) ?_ rfl ?_
 ·exact zaI (show Tryz.f160.results = #[.cell 6 78,.tmp 7]from rfl) (p:=⟨w.heap.size+2,0,none⟩) rfl rfl hL
 ·exact⟨{y with pl:=p'},rfl,fun w' hk=>HPI.out p' w' (hIL.keptF (Hfar.out.mono (by omega)) hk),B8.trans (yG gL (by omega) B8.size)⟩
theorem PIs.bareC{p:S14.P}{y:Lay}{w w':World}{l:List (Int×Int)}{a:Option Addr}{cap:Nat}(h:PIs p y w)(hb:S14.bare {p with ctrs:=[]}=true)(hr:Rd w' a (Cts l)):PIs {p with ctrs:=l} {y with a1:=a,c1:=cap} w':=by
 obtain⟨_,h2,h3,h4,h5,h6,h7⟩:=zfO hb;exact⟨hr,h.tab.nil14 h2,h.mch.nil14 h5 h6 h7,h.mix.nil14 h3,h.apm.nil14 h4⟩
theorem zqH(c:S14.C)(N:S14.N)(L:NLay)(k:Nat)(b:Value)(hb:b.oneCell'=true)(p:S14.P)(y:Lay)(n:Nat)(bit:Int)(w:World)(hbare:S14.bare {p with ctrs:=[]}=true)(hN:NIs N L w)(hc:N.comps[k]? = some c)(hp:N.parts[k]? = some p)(hy:L.ys[k]? = some y)(hx:k<N.ctxs.length)(pt:Nat)(hpt:N.part=(pt:Int))(hpt2:pt<4294967296)
 (hn:c.bits=(n:Int)) (hn2:n≤16) (hl:p.ctrs.length=2^n) :
 Calls Tryz.prog 115 #[CV c,VV N L k b,.int .i64 bit] w fun e w'=>∃y',e = .returned (.tuple #[PV {p with ctrs:=S14.upd p.ctrs (S14.index (N.ctxs.getD k 0) pt n) bit c.limit} y',.int .i64 0])∧
  PRob 0 w.heap.size {p with ctrs:=S14.upd p.ctrs (S14.index (N.ctxs.getD k 0) pt n) bit c.limit} y' w'∧Below w.heap.size w w':=by
 have hk:k<N.parts.length:=(List.getElem?_eq_some_iff.1 hp).1;have hP:=hN.ps k p y hp hy;have hil:=S14.index_lt (N.ctxs.getD k 0) pt hn2;rw[←hl]at hil;have h65:p.ctrs.length≤65536:=by rw[hl];exact(zpC hn2).2
 have HPt:=zB fun(W:World) (hW:Below w.heap.size w W)=>zbW N L k b hb W (hN.step hW) hk p y hp hy;have HIx:=zB fun(W:World) (hW:Below w.heap.size w W)=>zeT N L k b W (hN.step hW) hx pt hpt hpt2 c hc n hn hn2;obtain⟨i,hi⟩:∃i,S14.index (N.ctxs.getD k 0) pt n=i:=⟨_,rfl⟩;rw[hi]at hil HIx⊢;have HUp:=zB fun(W:World) (hW:Below w.heap.size w W)=>zjY p.ctrs i hil h65 bit c.limit y.a1 y.c1 W (hP.rc.step hW);have HPI:=zB fun(a:Option Addr) (cap:Nat) (l:List (Int×Int)) (w':World) (hr:Rd w' a (Cts l))=>hP.bareC (cap:=cap) hbare hr;unfold PV at HPt;have hhd:∃tl,yL p y = .slice y.a1 p.ctrs.length y.c1::tl∧tl.length=15∧∀(a:Option Addr) (cap:Nat) (l:List (Int×Int)),l.length=p.ctrs.length→yL {p with ctrs:=l} {y with a1:=a,c1:=cap} = .slice a p.ctrs.length cap::tl:=⟨_,rfl,rfl,fun a cap l hl=>by unfold yL;simp only[hl]⟩;obtain⟨tl,htl,htl2,htl3⟩:=hhd;have hone:=zaM p y;rw[htl]at HPt hone;have hlu:(S14.upd p.ctrs i bit c.limit).length=p.ctrs.length:=by unfold S14.upd;rw[yT]
 have HTL:=zB fun a cap=>htl3 a cap (S14.upd p.ctrs i bit c.limit) hlu;obtain⟨ul,hul⟩:∃ul,S14.upd p.ctrs i bit c.limit=ul:=⟨_,rfl⟩;rw[hul]at HUp HTL⊢;obtain⟨m,hm⟩:∃m,p.ctrs.length=m:=⟨_,rfl⟩;rw[hm]at HPt HUp HTL hone;obtain⟨kind,bits,limit,rate,first,second⟩:=c;unfold CV zZ;simp only at HUp⊢;unfold VV at HPt HIx⊢;obtain⟨nc,hnc⟩:∃n,N.comps.length=n:=⟨_,rfl⟩;obtain⟨np,hnp⟩:∃n,N.parts.length=n:=⟨_,rfl⟩;obtain⟨nx,hnx⟩:∃n,N.ctxs.length=n:=⟨_,rfl⟩;rw[hnc,hnp,hnx,hpt]at HPt HIx⊢;clear hnc hnp hnx hm hul hlu hi htl htl3 hP hN hp hy hc hx hk hl hb h65 hil hpt hn;obtain⟨W1,hW1⟩:∃W1,((w.alloc (.cells #[.int .i64 kind,.int .i64 bits,.int .i64 limit,.int .i64 rate,.int .i64 first,.int .i64 second] 112)).alloc (.cells #[.slice L.a1 nc L.c1,.slice L.a2 np L.c2,.slice L.a3 nx L.c3,.int .i64 (pt:Int),.int .i64 (k:Int),b] 102)).alloc (.cells zP 78)=W1:=⟨_,rfl⟩;have k1:Blk W1 w.heap.size [.int .i64 kind,.int .i64 bits,.int .i64 limit,.int .i64 rate,.int .i64 first,.int .i64 second] 112:=by rw[←hW1];exact((Blk.new w _ _).alloc _).alloc _
 have k2:Blk W1 (w.heap.size+1) [.slice L.a1 nc L.c1,.slice L.a2 np L.c2,.slice L.a3 nx L.c3,.int .i64 (pt:Int),.int .i64 (k:Int),b] 102:=by
  rw[←hW1];have h:=(Blk.new (w.alloc (.cells #[.int .i64 kind,.int .i64 bits,.int .i64 limit,.int .i64 rate,.int .i64 first,.int .i64 second] 112)) [.slice L.a1 nc L.c1,.slice L.a2 np L.c2,.slice L.a3 nx L.c3,.int .i64 (pt:Int),.int .i64 (k:Int),b] 102).alloc (.cells zP 78);rwa[zV]at h
 have k3:Blk W1 (w.heap.size+1+1) (yL S14.P0 zdO) 78:=by
  rw[←hW1];have h:=zeH ((w.alloc (.cells #[.int .i64 kind,.int .i64 bits,.int .i64 limit,.int .i64 rate,.int .i64 first,.int .i64 second] 112)).alloc (.cells #[.slice L.a1 nc L.c1,.slice L.a2 np L.c2,.slice L.a3 nx L.c3,.int .i64 (pt:Int),.int .i64 (k:Int),b] 102));rwa[zV,zV]at h
 have B1:Below w.heap.size w W1:=by rw[←hW1];exact(((zF _ _).alloc (zD _) _).alloc (by simp) _).alloc (by simp;omega) _
 have e0:=k2.cell 0;have e1:=k2.cell 1;have e2:=k2.cell 2;have e3:=k2.cell 3;have e4:=k2.cell 4;have e5:=k2.cell 5;simp only[zuK]at e0 e1 e2 e3 e4 e5;go_enter Tryz.func115,Tryz.ntmps115;go_wp2_with (first
  | (refine zaB 78 zP zcS (by rfl) (by rfl) ?_;rw[hW1])
  | fail)
 refine(HPt.out _ B1).mono ?_;rintro e w2 ⟨rfl,hb2⟩;have B2:=zA B1 hb2;obtain⟨w3,hw3⟩:∃w3,w2.alloc (.cells zP 78)=w3:=⟨_,rfl⟩;have kP:Blk w3 w2.heap.size (yL S14.P0 zdO) 78:=by rw[←hw3];exact zeH w2
 have hb3:Below w2.heap.size w2 w3:=by rw[←hw3];exact(zF _ _).alloc (zD _) _
 have hl16:(yL S14.P0 zdO).length=(Value.slice y.a1 m y.c1::tl).length:=by rw[yO,htl2];rfl
 have hi16:some 16=some (Value.slice y.a1 m y.c1::tl).length:=by rw[yO,htl2]
 have hb13:=zA hb2 hb3;have k13:=k1.step hb13;have k23:=k2.step hb13;have k33:=k3.step hb13;have hz2:w.heap.size+1+1<w2.heap.size:=(k3.step hb2).lt;go_wp2_with (first
  | (refine zaB 78 zP zcS (by rfl) (by rfl) ?_;rw[hw3])
  | (refine zT 78 (.tmp 8) (.tmp 10) (by rfl) (by rfl) w2.heap.size (by rfl) (Value.slice y.a1 m y.c1::tl) (by rfl) _ 78 kP (info_P.trans hi16) hl16 hone ?_;intro w4 k4 g4 s4))
 have hb24:Below w2.heap.size w2 w4:=hb3.trans (yG g4 (zD _) hb3.size);have B4:=zA B2 hb24;have k14:=k13.keptRow g4 (fun e=>by have:=zK e;omega);have k24:=k23.keptRow g4 (fun e=>by have:=zK e;omega);have k34:=k33.keptRow g4 (fun e=>by have:=zK e;omega);have hz4:w2.heap.size<w4.heap.size:=k4.lt;obtain⟨B,hB⟩:∃B,w2.heap.size=B:=⟨_,rfl⟩;rw[hB]at k4 hz2 hz4⊢;clear g4 s4 k13 k23 k33 kP hb24 hb3 hb13 hB;have k40:=k4.cell 0;simp only[lgz]at k40;have hCS:Cells w4 [(⟨B,0,none⟩,.slice y.a1 m y.c1),(⟨w.heap.size+1,0,none⟩,.slice L.a1 nc L.c1),(⟨w.heap.size+1,1,none⟩,.slice L.a2 np L.c2),(⟨w.heap.size+1,2,none⟩,.slice L.a3 nx L.c3),(⟨w.heap.size+1,3,none⟩,.int .i64 (pt:Int)),(⟨w.heap.size+1,4,none⟩,.int .i64 (k:Int)),(⟨w.heap.size+1,5,none⟩,b),(⟨w.heap.size,2,none⟩,.int .i64 limit)]:=⟨k40,k24.cell 0,k24.cell 1,k24.cell 2,k24.cell 3,k24.cell 4,k24.cell 5,k14.cell 2,yF⟩;refine zuL 9 2 [(U,[U,U,U,zuH,U,U,U,U]),(zuH,[zuH,zuH,zuH,U]),(zuH,[zuH,zuH,zuH,zuH,zuH,zuH,zuH,zuH,U])] (Keeps w4 [(⟨B,0,none⟩,.slice y.a1 m y.c1),(⟨w.heap.size+1,0,none⟩,.slice L.a1 nc L.c1),(⟨w.heap.size+1,1,none⟩,.slice L.a2 np L.c2),(⟨w.heap.size+1,2,none⟩,.slice L.a3 nx L.c3),(⟨w.heap.size+1,3,none⟩,.int .i64 (pt:Int)),(⟨w.heap.size+1,4,none⟩,.int .i64 (k:Int)),(⟨w.heap.size+1,5,none⟩,b),(⟨w.heap.size,2,none⟩,.int .i64 limit)]) (by kernel_rfl) (Keeps.start hCS) (fun Y Q4 F4 hY hF=> ?_);simp only[zuJ]
 repeat
  apply zJ (by rw[hY];rfl)
  ·intro w2 hS2;(try simp only[Keeps,Cells]at hS2);go_simp;with_reducible rfl
  simp only[zuI]
 apply zR (by rw[hY];rfl)
 ·go_simp;with_reducible exact⟨rfl,rfl⟩
 refine(HIx.out _ (zA B4 (Keeps.start hCS).1)).mono ?_;rintro e w5 ⟨rfl,hb5⟩;have hk5:=(Keeps.start hCS).step hb5;refine⟨_,rfl,hk5,?_⟩;simp only[zuI];apply zR (by rw[hY];rfl)
 ·go_simp;with_reducible exact⟨rfl,rfl⟩
 refine(HUp.out _ (zA B4 hk5.1)).mono ?_;rintro e w6 ⟨a6,cap6,rfl,hfar6,hrd6,hb6⟩;have hk6:=hk5.step hb6;refine⟨_,rfl,hk6,?_⟩;simp only[zuI];refine yE (hF.out _ _ (fun K hK=> ?_));clear hF hY;have k46:=(k4.step hk6.1);have k36:=k34.step hk6.1;have B6:=zA B4 hk6.1;have hsz5:=hk5.1.size;have hsz6:=hk6.1.size;have q0:=k46.cell 0;have q0f:=k46.free 0;simp only[lgz]at q0;have k47:=k46.set 0 (.slice a6 m cap6);have k37:=k36.other B 0 (.slice a6 m cap6) (by omega);rw[List.set_cons_zero]at k47;have hne6:∀g o,a6=some ⟨g,o,none⟩→g≠B:=fun g o e=>by have:=hfar6 g o e;omega
 have hrd7:=hrd6.keptRow (zaJ w6 B 0 (.slice a6 m cap6)) hne6;have B7:Below w.heap.size w (w6.setCell ⟨B,0,none⟩ (.slice a6 m cap6)):=B6.setCell (p:=⟨B,0,none⟩) (by simp;omega) _;have HR7:=zB hrd7;have Hf6:=zB (fun g o (e:a6=some ⟨g,o,none⟩)=>(show g<0∨w.heap.size≤g by have:=hfar6 g o e;have:=B4.size;exact .inr (by omega)));have Hne:=zB (fun g o (e:a6=some ⟨g,o,none⟩)=>(show g≠w.heap.size+1+1 by have:=hfar6 g o e;omega));clear hk5 hk6 hrd6 hrd7 hfar6 hne6 k46 k36;go_wp2_with fail;refine OnlyK.mk (hK.out _ _ ?_);clear hK;obtain⟨w7,hw7⟩:∃w7,w6.setCell ⟨B,0,none⟩ (.slice a6 m cap6)=w7:=⟨_,rfl⟩;rw[hw7]at k47 k37 B7 HR7⊢;clear hw7
 have hone7:∀v∈Value.slice a6 m cap6::tl,v.oneCell'=true:=fun v hv=>by
  rcases List.mem_cons.1 hv with rfl|hv
  ·rfl
  ·exact hone v (List.mem_cons_of_mem _ hv)
 have hl7:(yL S14.P0 zdO).length=(Value.slice a6 m cap6::tl).length:=by rw[yO,htl2];rfl
 have hi7:some 16=some (Value.slice a6 m cap6::tl).length:=by rw[yO,htl2]
 go_wp2_with (first
  | (refine yA 78 (.tmp 8) (by rfl) (by rfl) B (by rfl) (Value.slice a6 m cap6::tl) 78 k47 _ Tryz.underlying78 rfl (info_P.trans hi7) ?_)
  | (refine zT 78 (.tmp 6) (.tmp 21) (by rfl) (by rfl) (w.heap.size+1+1) (by rfl) (Value.slice a6 m cap6::tl) (by rfl) _ 78 k37 (info_P.trans hi7) hl7 hone7 ?_;intro wL EL gL sL))
 have hL:=run_loadVar_mid wL _ 0 _ _ _ EL.cells Tryz.underlying78 rfl (info_P.trans hi7);have BL:Below w.heap.size w wL:=B7.trans (yG gL (by omega) B7.size);refine bodyPost_ret (v:=.tuple #[.agg (Value.slice a6 m cap6::tl).toArray,.int .i64 0]) ?_ rfl ?_
 ·exact zaI (show Tryz.f115.results = #[.cell 6 78,.tmp 7]from rfl) (p:=⟨w.heap.size+1+1,0,none⟩) rfl rfl hL
 ·refine⟨{y with a1:=a6,c1:=cap6},?_,fun w' hk=>HPI.out _ _ _ w' ((HR7.out.keptRow gL Hne.out).kept hk Hf6.out),BL⟩;unfold PV;rw[HTL.out]
