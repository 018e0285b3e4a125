/- A part of the proof of L14l. No condition. -/
import Derived.Test.YthhgkafloejjiaaGreatZL14lax
import Derived.Test.YthhgkafloejjiaaGreatZL14lbk
set_option linter.all false
set_option maxRecDepth 100000
set_option maxHeartbeats 40000000
namespace Go.Proofs.YthhgkafloejjiaaGreat
open Go.RowKit
theorem zdT(p:S14.P)(y:Lay)(w:World) :
 (Instr.field 50 (.agg (yB p y).toArray) 0).run Tryz.prog w = .ok (.slice y.a1 p.ctrs.length y.c1) w∧
 (Instr.field 50 (.agg (yB p y).toArray) 1).run Tryz.prog w = .ok (zcK p.sb p.sd y.a2 y.c2) w∧
 (Instr.field 50 (.agg (yB p y).toArray) 2).run Tryz.prog w = .ok (.int .i64 p.slot) w∧
 (Instr.field 50 (.agg (yB p y).toArray) 3).run Tryz.prog w = .ok (MV p.m y.pl) w∧
 (Instr.field 50 (.agg (yB p y).toArray) 4).run Tryz.prog w = .ok (.agg (MixC p y).toArray) w∧
 (Instr.field 50 (.agg (yB p y).toArray) 5).run Tryz.prog w = .ok (.agg (ApmC p y).toArray) w:=by
 unfold yB;refine⟨?_,?_,?_,?_,?_,?_⟩<;>(unfold Instr.field part;simp[run_underlying Tryz.underlying50,asAgg,go_sem])<;>rfl
theorem zfL(w:World)(c:S14.C)(t:TypeId)(vs:List Value):∃a,(w.alloc (.cells (zV c).toArray t)).alloc (.cells vs.toArray 68)=a∧Blk a w (zV c) t∧Blk a (w.heap.size+1) vs 68∧Below w w a:=by
 refine⟨_,rfl,(Blk.new w _ _).alloc _,?_,((zJ _ _).alloc (zF _) _).alloc by1 _⟩;have h:=Blk.new (w.alloc (.cells (zV c).toArray t)) vs 68;rwa[zY]at h
def S14.outM(m:S12.M):Int:=if S12.predB m=true then S06.stretch (S12.predP m)else 0
theorem S14.outM_bounds(m:S12.M) : -3071≤S14.outM m∧S14.outM m≤3071:=by
 unfold S14.outM;split
 ·exact S06.stretch_bounds _
 ·omega
theorem info_V14:(Tryz.prog.info? 68).map (·.size)=some 6:=by kernel_rfl
theorem zuO(c:S14.C)(N:S14.N)(L:NLay)(k:Nat)(b:Value)(z:b.oneCell'=true)(p:S14.P)(y:Lay)(w:World)(v:NIs N L w)(j:N.parts[k]? = some p)(q:L.ys[k]? = some y) :
 Calls Tryz.prog 201 #[CV c,VV N L k b] w fun e M=>e = .returned (.int .i64 (S14.outM p.m))∧Below w w M:=by
 have F:k<N.parts.length:=(List.getElem?_eq_some_iff.1 j).1;have H:=v.ps k p y j q;have d:=zC fun(W:World) (s:Below w w W)=>zbO N L k b z W (v.step s) F p y j q;have a:=zC fun(W:World) (s:Below w w W)=>zuG p.m y.pl W (H.mch.step s);have J:=zC fun W=>zdA (S12.predP p.m) W;have g:=zC fun W=>(zdT p y W).2.2.2.1;obtain⟨K,B⟩:=zvJ N.part;unfold S14.outM;unfold PV VV at d;unfold VV CV;obtain⟨Y,V,A,I⟩:=zz2 (yB p y) (MV p.m y.pl);rw[A]at d g;rw[I]at g a;clear A I H v j q F z;generalize S12.predP p.m=x at *;generalize S06.stretch x=X at *;obtain⟨S,R,Q,E,D,G⟩:=zz3 N.comps.length N.parts.length N.ctxs.length;rw[E,D,G,B]at d⊢;obtain⟨Z,m,C,l,h⟩:=zfL w c 90 [.slice L.a1 S L.c1,.slice L.a2 R L.c2,.slice L.a3 Q L.c3,K,k,b];clear E D G B;have i:=zC a;clear a;cases hq:S12.predB p.m with
 | false=>
   have a:=i.out;rw[hq]at a;clear hq i;go_enter Tryz.func201,Tryz.ntmps201;go_wp2_with (first
    | (rw[m])
    | (refine ld68 (.tmp 3) l ?_))
   refine mnb h (d.out _ h) fun r n f=> ?_;have t:=g.out r;clear n d g m C l h;go_wp2_with fail;refine mnb f (a.out _ f) fun O o u=> ?_;clear o f t a;exact mf1 u
 | true=>
   have a:=i.out;rw[hq]at a;clear hq i;go_enter Tryz.func201,Tryz.ntmps201;go_wp2_with (first
    | (rw[m])
    | (refine ld68 (.tmp 3) l ?_))
   refine mnb h (d.out _ h) fun r n f=> ?_;have t:=g.out r;clear n d g m C l h;go_wp2_with fail;refine mnb f (a.out _ f) fun O o u=> ?_;clear o f t a;go_wp2_with fail;refine mnb u (J.out _) fun T U P=> ?_;exact mf1 P
theorem Rd.intsWindow{w:World}{g o:Nat}{xs:List Int}(h:Rd w (some ⟨g,o,none⟩) (zaE xs))(f n:Nat):Rd w (some ⟨g,o+f,none⟩) (zaE ((xs.drop f).take n)):=fun d=>by
 have c:zaE xs≠ []:=fun e=>d (by
  have:xs = []:=List.map_eq_nil_iff.1 e;rw[this];simp[zaE])
 obtain⟨b,l,e,k⟩:=h c;cases e;refine⟨g,o+f,rfl,fun j v a=> ?_⟩;have i:(zaE xs)[f+j]? = some v:=by
  unfold zaE at a⊢;rw[yI]at a⊢;rw[zbG]at a;split at a
  ·rw[zdI]at a;exact a
  ·cases a
 rw[zcE];exact k (f+j) v i
theorem zsP(c:S14.C)(N:S14.N)(L:NLay)(k g o f s:Nat)(w:World)(b:c.first=(f:Int))(j:c.second=(s:Int))(A:f≤s)(u:s<k)(v:k≤16) :
 Calls Tryz.prog 242 #[CV c,VV N L k (.slice (some ⟨g,o,none⟩) k k)] w fun e l=>e = .returned (.slice (some ⟨g,o+f,none⟩) (s+1-f) (s+1-f))∧Below w w l:=by
 obtain⟨r,n,t,q,first,p⟩:=c;simp only at b j;subst b;subst j;unfold VV CV zV;obtain⟨z,y,x,m,h,d,i,a⟩:=zz4 N.comps.length N.parts.length N.ctxs.length N.part;rw[h,d,i,a];clear h d i a;go_enter Tryz.func242,Tryz.ntmps242;go_wp2_with fail;go_returns;exact⟨rfl,((zJ _ _).alloc (zF _) _).alloc by1 _⟩
theorem mixed14_out(c:S14.C)(N:S14.N)(L:NLay)(k g o:Nat)(p:S14.P)(y:Lay)(n f s:Nat)(d:List Int)(w:World)(u:NIs N L w)(hc:N.comps[k]? = some c)(r:N.parts[k]? = some p)(I:L.ys[k]? = some y)(V:k<N.ctxs.length)(pt:Nat)(x:N.part=(pt:Int))(an:pt<4294967296)
 (hn:c.bits=(n:Int)) (ap:n≤16) (hf:c.first=(f:Int)) (hs:c.second=(s:Int)) (am:f≤s) (al:s<k) (ae:k≤16) (O:d.length=k) (P:Rd w (some ⟨g,o,none⟩) (zaE d)) :
 Calls Tryz.prog 238 #[CV c,VV N L k (.slice (some ⟨g,o,none⟩) k k)] w fun e w'=>e = .returned (.int .i64 (S13.mixR p.mi p.mw (S14.index (N.ctxs.getD k 0) pt n:Nat) ((d.drop f).take (s+1-f))))∧Below w w w':=by
 have Q:k<N.parts.length:=(List.getElem?_eq_some_iff.1 r).1;have hP:=u.ps k p y r I;have l:=zC fun(W:World) (j:Below w w W)=>zbO N L k (.slice (some ⟨g,o,none⟩) k k) rfl W (u.step j) Q p y r I;have t:=zC fun(W:World) (j:Below w w W)=>zeK N L k (.slice (some ⟨g,o,none⟩) k k) W (u.step j) V pt x an c hc n hn ap;have b:=zC fun(W:World)=>zsP c N L k g o f s W hf hs am al ae;obtain⟨i,hi⟩:=zvJ (S14.index (N.ctxs.getD k 0) pt n);have ai:((d.drop f).take (s+1-f)).length=s+1-f:=by rw[yJ,List.length_drop,O];omega
 have q:=zC fun(W:World) (j:Below w w W)=>mixM13_any p.mi p.mw (.agg (MixC p y).toArray) (i:Int) ((d.drop f).take (s+1-f)) (some ⟨g,o+f,none⟩) (s+1-f) W (hP.mix.step j) om ((P.step j).intsWindow f (s+1-f));rw[ai]at q;rw[hi]at t⊢;obtain⟨R,E,A,hE⟩:=zz2 (S13.mixR p.mi p.mw (i:Int) ((d.drop f).take (s+1-f))) (S13.usable 16 p.mi p.mw (i:Int) ((d.drop f).take (s+1-f)));rw[A,hE]at q;rw[A];have J:=zC fun W=>(zdT p y W).2.2.2.2.1;obtain⟨VM,ah⟩:=zvJ (Value.agg (MixC p y).toArray);rw[ah]at J q;unfold PV at l;obtain⟨VP,X⟩:=zvJ (yB p y);rw[X]at l J;unfold VV at l t b⊢;obtain⟨m,Z⟩:=zvJ (s+1-f);rw[Z]at b q;clear X ah A hE ai hP hi Z;obtain⟨D,C,G,ak,ad,ag⟩:=zz3 N.comps.length N.parts.length N.ctxs.length;rw[ak,ad,ag,x]at l t b⊢;obtain⟨T,H,a,h,v⟩:=zfL w c 92 [.slice L.a1 D L.c1,.slice L.a2 C L.c2,.slice L.a3 G L.c3,pt,k,.slice (some ⟨g,o,none⟩) k k];clear ak ad ag x u hc r I V Q hn hf hs am al ae O P;obtain⟨aj,af,ac,ab,first,aa⟩:=c;unfold CV at b⊢;unfold zV at b a H⊢;simp only at b a H⊢;have M:Cells T [(⟨w.heap.size+1,0,none⟩,.slice L.a1 D L.c1),(⟨w.heap.size+1,1,none⟩,.slice L.a2 C L.c2),(⟨w.heap.size+1,2,none⟩,.slice L.a3 G L.c3),(⟨w.heap.size+1,3,none⟩,pt),(⟨w.heap.size+1,4,none⟩,k),(⟨w.heap.size+1,5,none⟩,.slice (some ⟨g,o,none⟩) k k),(⟨w,0,none⟩,aj),(⟨w,1,none⟩,af),(⟨w,2,none⟩,ac),(⟨w,3,none⟩,ab),(⟨w,4,none⟩,first),(⟨w,5,none⟩,aa)]:=⟨h.cell 0,h.cell 1,h.cell 2,h.cell 3,h.cell 4,h.cell 5,a.cell 0,a.cell 1,a.cell 2,a.cell 3,a.cell 4,a.cell 5,zT⟩;go_enter Tryz.func238,Tryz.ntmps238;go_wp2_with (rw[H]);refine zvL 13 1 [(U,0,1),(U,3,1),(U,5,2),(zvE,1,1),(U,2,1),(zvE,4,1),(zvE,7,1),(zvE,8,1),(U,9,3),(zvE,12,1)] (Keeps T [(⟨w.heap.size+1,0,none⟩,.slice L.a1 D L.c1),(⟨w.heap.size+1,1,none⟩,.slice L.a2 C L.c2),(⟨w.heap.size+1,2,none⟩,.slice L.a3 G L.c3),(⟨w.heap.size+1,3,none⟩,pt),(⟨w.heap.size+1,4,none⟩,k),(⟨w.heap.size+1,5,none⟩,.slice (some ⟨g,o,none⟩) k k),(⟨w,0,none⟩,aj),(⟨w,1,none⟩,af),(⟨w,2,none⟩,ac),(⟨w,3,none⟩,ab),(⟨w,4,none⟩,first),(⟨w,5,none⟩,aa)]) (Keeps.start M) fun Y Q4 F4 hY hF=> ?_;repeat refine mrd ?_
 refine mcl ?_;refine mck (Keeps.start M) (l.out _ (zA v (Keeps.start M).1)) fun w2 aq F=> ?_;have aw:=J.out;repeat refine mrd ?_
 refine mcl ?_;refine mck F (t.out _ (zA v F.1)) fun w3 ar S=> ?_;repeat refine mrd ?_
 refine mcl ?_;refine mck S (b.out _) fun w4 au B=> ?_;repeat refine mrd ?_
 refine mcl ?_;refine mck B (q.out _ (zA v B.1)) fun w5 av z=> ?_;repeat refine mrd ?_
 refine mvl (z) ?_;refine mdn hF fun K hK=> ?_;clear hF hY;have ao:=zA v z.1;go_wp2_with fail;refine mok hK ?_;clear hK F S B z;exact mf1 ao
theorem ztW(c:S14.C)(N:S14.N)(L:NLay)(k g o:Nat)(p:S14.P)(y:Lay)(n f:Nat)(v:List Int)(w:World)(u:NIs N L w)(hc:N.comps[k]? = some c)(s:N.parts[k]? = some p)(O:L.ys[k]? = some y)(hx:k<N.ctxs.length)(pt:Nat)(z:N.part=(pt:Int))(av:pt<4294967296)
 (hn:c.bits=(n:Int)) (ax:n≤16) (hf:c.first=(f:Int)) (aE:f<k) (ar:v.length=k) (S:Rd w (some ⟨g,o,none⟩) (zaE v)) :
 Calls Tryz.prog 258 #[CV c,VV N L k (.slice (some ⟨g,o,none⟩) k k)] w fun e w'=>e = .returned (.int .i64 (S06.stretch (S11.refineR p.ac (S14.index (N.ctxs.getD k 0) pt n:Nat) (S06.squash (v.getD f 0)))))∧Below w w w':=by
 have V:k<N.parts.length:=(List.getElem?_eq_some_iff.1 s).1;have hP:=u.ps k p y s O;have j:=zC fun(W:World) (r:Below w w W)=>zbO N L k (.slice (some ⟨g,o,none⟩) k k) rfl W (u.step r) V p y s O;have t:=zC fun(W:World) (r:Below w w W)=>zeK N L k (.slice (some ⟨g,o,none⟩) k k) W (u.step r) hx pt z av c hc n hn ax;obtain⟨i,x,hi,I⟩:=zz2 (S14.index (N.ctxs.getD k 0) pt n) (v.getD f 0);have A:w.cell? ⟨g,o+f,none⟩=some (.int .i64 x):=by
  obtain⟨b,o',e,hr⟩:=S (fun e=>by have h:=yG List.length e;rw[zR,List.length_nil]at h;omega);cases e;refine hr f _ ?_;unfold zaE;rw[yI,zD om,←I,zK,zD om];rfl
 have ag:=zC fun W=>zeX x W;obtain⟨am,cm,af,aq,ai,an⟩:=hP.apm;have m:=zC fun(W:World) (r:Below w w W)=>refine11_any p.ac am cm (i:Int) (S06.squash x) W aq ai (an.step r);rw[←af]at m;rw[hi]at t⊢;rw[I];obtain⟨q,hq⟩:=zvJ (S06.squash x);rw[hq]at ag m⊢;obtain⟨R,E,C,hE⟩:=zz2 (S11.refineR p.ac (i:Int) q) (S11.usable p.ac (i:Int) q);rw[C,hE]at m;rw[C];have ah:=zC fun W=>zdA R W;obtain⟨T,hT⟩:=zvJ (S06.stretch R);rw[hT]at ah⊢;have P:=zC fun W=>(zdT p y W).2.2.2.2.2;obtain⟨VM,al⟩:=zvJ (Value.agg (ApmC p y).toArray);rw[al]at P m;unfold PV at j;obtain⟨VP,aa⟩:=zvJ (yB p y);rw[aa]at j P;unfold VV at j t⊢;clear aa al C hE hP hi hT hq I af aq ai an;obtain⟨G,F,J,ap,ae,ak⟩:=zz3 N.comps.length N.parts.length N.ctxs.length;rw[ap,ae,ak,z]at j t⊢;obtain⟨Z,M,a,d,l⟩:=zfL w c 93 [.slice L.a1 G L.c1,.slice L.a2 F L.c2,.slice L.a3 J L.c3,pt,k,.slice (some ⟨g,o,none⟩) k k];have ay:=(l.cell (zE A)).trans A;have aG:(f:Int)<(k:Int):=by omega
 clear ap ae ak z u hc s O hx V hn ar S A;obtain⟨ao,aj,ad,ac,first,ab⟩:=c;simp only at hf;subst hf;unfold CV;unfold zV at a M⊢;simp only at a M⊢;have Q:Cells Z [(⟨w.heap.size+1,0,none⟩,.slice L.a1 G L.c1),(⟨w.heap.size+1,1,none⟩,.slice L.a2 F L.c2),(⟨w.heap.size+1,2,none⟩,.slice L.a3 J L.c3),(⟨w.heap.size+1,3,none⟩,pt),(⟨w.heap.size+1,4,none⟩,k),(⟨w.heap.size+1,5,none⟩,.slice (some ⟨g,o,none⟩) k k),(⟨w,0,none⟩,ao),(⟨w,1,none⟩,aj),(⟨w,2,none⟩,ad),(⟨w,3,none⟩,ac),(⟨w,4,none⟩,f),(⟨w,5,none⟩,ab),(⟨g,o+f,none⟩,x)]:=⟨d.cell 0,d.cell 1,d.cell 2,d.cell 3,d.cell 4,d.cell 5,a.cell 0,a.cell 1,a.cell 2,a.cell 3,a.cell 4,a.cell 5,ay,zT⟩;go_enter Tryz.func258,Tryz.ntmps258;go_wp2_with (rw[M]);refine zvL 18 1 [(U,0,1),(U,3,1),(U,5,7),(zvE,1,1),(U,2,1),(zvE,4,1),(zvE,12,1),(zvE,13,1),(U,14,3),(zvE,17,1)] (Keeps Z [(⟨w.heap.size+1,0,none⟩,.slice L.a1 G L.c1),(⟨w.heap.size+1,1,none⟩,.slice L.a2 F L.c2),(⟨w.heap.size+1,2,none⟩,.slice L.a3 J L.c3),(⟨w.heap.size+1,3,none⟩,pt),(⟨w.heap.size+1,4,none⟩,k),(⟨w.heap.size+1,5,none⟩,.slice (some ⟨g,o,none⟩) k k),(⟨w,0,none⟩,ao),(⟨w,1,none⟩,aj),(⟨w,2,none⟩,ad),(⟨w,3,none⟩,ac),(⟨w,4,none⟩,f),(⟨w,5,none⟩,ab),(⟨g,o+f,none⟩,x)]) (Keeps.start Q) fun Y Q4 F4 hY hF=> ?_;repeat refine mrd ?_
 refine mcl ?_;refine mck (Keeps.start Q) (j.out _ (zA l (Keeps.start Q).1)) fun w2 az H=> ?_;have aF:=P.out;repeat refine mrd ?_
 refine mcl ?_;refine mck H (t.out _ (zA l H.1)) fun w3 aA X=> ?_;repeat refine mrd ?_
 refine mcl ?_;refine mck X (ag.out _) fun w4 aB D=> ?_;repeat refine mrd ?_
 refine mcl ?_;refine mck D (m.out _ (zA l D.1)) fun w5 aD B=> ?_;repeat refine mrd ?_
 refine mvl (B) ?_;refine mdn hF fun K hK=> ?_;clear hF hY;have aw:=zA l B.1;go_wp2_with fail;refine mok hK ?_;clear hK H X D B;go_wp2_with fail;refine mnb aw (ah.out _) fun w6 aC au=> ?_;exact mf1 au
theorem node_all_1:∀a<256,16≤a/2^(1-1)→a/2^1<16→bits BinOp.or IntKind.i64 1 (bits BinOp.and IntKind.i64 ((a:Nat):Int) 0)=(S14.node a:Int):=by decide +kernel
theorem node_all_2:∀a<256,16≤a/2^(2-1)→a/2^2<16→bits BinOp.or IntKind.i64 2 (bits BinOp.and IntKind.i64 ((a:Nat):Int) 1)=(S14.node a:Int):=by decide +kernel
theorem node_all_3:∀a<256,16≤a/2^(3-1)→a/2^3<16→bits BinOp.or IntKind.i64 4 (bits BinOp.and IntKind.i64 ((a:Nat):Int) 3)=(S14.node a:Int):=by decide +kernel
theorem node_all_4:∀a<256,16≤a/2^(4-1)→a/2^4<16→bits BinOp.or IntKind.i64 8 (bits BinOp.and IntKind.i64 ((a:Nat):Int) 7)=(S14.node a:Int):=by decide +kernel
theorem zpK(N:S14.N)(L:NLay)(k:Nat)(b:Value)(w:World)(pt:Nat)(l:N.part=(pt:Int))(F:1≤pt)(D:pt≤255) :
 Calls Tryz.prog 191 #[VV N L k b] w fun e u=>e = .returned (.int .i64 (S14.node pt:Int))∧Below w w u:=by
 unfold VV;obtain⟨B,A,x,p,o,q⟩:=zz3 N.comps.length N.parts.length N.ctxs.length;rw[p,o,q,l];obtain⟨C,z,m,f⟩:=al1 w [.slice L.a1 B L.c1,.slice L.a2 A L.c2,.slice L.a3 x L.c3,pt,k,b] 68;have y:=m.cell 3;simp only[zvH]at y;clear p o q l m;go_enter Tryz.func191,Tryz.ntmps191;go_wp2_with (rw[z]);go_loopw [3,4] (fun h d wr=>∃j:Nat,j≤4∧h = .int .i64 ((pt/2^j:Nat):Int)∧d = .int .i64 (j:Int)∧(j=0∨16≤pt/2^(j-1))∧wr=C) (fun h _ _=>(intOf h).toNat)
 case atStart=>exact⟨0,by omega,by simp,rfl,.inl rfl,rfl⟩
 case round=>
  obtain⟨j,E,rfl,rfl,g,rfl⟩:=hrel;obtain⟨i,c⟩:=zvJ (pt/2^j);have n:pt/2^(j+1)=i/2:=by rw[Nat.pow_succ,←Nat.div_div_eq_div_mul,c]
  rw[c];by_cases t:16≤i
  ·have s:(16:Int)≤i:=by omega
   have G:j<4:=by
    rcases yU j 4 with h|h
    ·exact h
    ·obtain rfl:j=4:=by omega
     have:pt/2^4≤255/2^4:=Nat.div_le_div_right D;omega
   obtain⟨H,r⟩:=zh2 c n;clear c n g;go_wp2;go_roundw
   case rel=>exact⟨j+1,by omega,by rw[r.out];simp,by simp,.inr (by rw[Nat.add_sub_cancel,H.out];exact t),zT⟩
   case measure=>simp[intOf];omega
  ·have s:¬(16:Int)≤i:=by omega
   have v:j=0∨j=1∨j=2∨j=3∨j=4:=by omega
   rcases v with rfl|rfl|rfl|rfl|rfl
   ·have a:S14.node pt=pt:=by unfold S14.node;rw[zQ (by simp at c;omega)]
    exact mf1 f
   ·have a:=node_all_1 pt om (by simpa using g) (by rw[c];omega);go_wp2;go_quiet (fail);go_wp2;go_returns;exact⟨by first|rfl|(rw[←a];rfl)|(simp[a]),zgF f _⟩
   ·have a:=node_all_2 pt om (by simpa using g) (by rw[c];omega);go_wp2;go_quiet (fail);go_wp2;go_returns;exact⟨by first|rfl|(rw[←a];rfl)|(simp[a]),zgF f _⟩
   ·have a:=node_all_3 pt om (by simpa using g) (by rw[c];omega);go_wp2;go_quiet (fail);go_wp2;go_returns;exact⟨by first|rfl|(rw[←a];rfl)|(simp[a]),zgF f _⟩
   ·have a:=node_all_4 pt om (by simpa using g) (by rw[c];omega);go_wp2;go_quiet (fail);go_wp2;go_returns;exact⟨by first|rfl|(rw[←a];rfl)|(simp[a]),zgF f _⟩
theorem S10.getN_lt{a:Int}{xs:List Int}(n k:Int)(h:S10.check a xs=0)(j:∀x∈xs,0≤x∧x<256):0≤S10.getN a xs n k∧S10.getN a xs n k<215:=by
 unfold S10.getN;split
 ·rename_i q
  obtain⟨_,c⟩:=S10.node_zero q;obtain⟨b,g,t,s,d⟩:=S10.correct h;unfold S10.exists at c;simp only[zS,yC]at c;obtain⟨⟨v,r⟩,y,u⟩:=c;rw[g,Int.toNat_natCast]at r;have w:(2:Int)^b=((2^b:Nat):Int):=by simp
  have o:n.toNat<2^b:=by omega
  have e:16*n.toNat+k.toNat<xs.length:=by omega
  rw[zK,zD e,zcC];have l:=j _ (yR e);refine⟨l.1,?_⟩;unfold S10.bad at d;rw[List.any_eq_false]at d;have p:=d n.toNat (List.mem_range.2 o);have m:xs[16*n.toNat+k.toNat]∈S10.tail xs n.toNat:=by
   refine yF (i:=k.toNat-1) ?_;unfold S10.tail;rw[zbG,zQ om,zdI,show 16*n.toNat+1+(k.toNat-1)=16*n.toNat+k.toNat by omega,zD e]
  have f:S10.bad1 xs[16*n.toNat+k.toNat]=false:=by
   cases hq:S10.bad1 xs[16*n.toNat+k.toNat]with
   | false=>rfl
   | true=>exact absurd (List.any_eq_true.2 ⟨_,m,hq⟩) p
  unfold S10.bad1 at f;simpa using f
 ·omega
theorem zpP(c:S14.C)(N:S14.N)(L:NLay)(k:Nat)(b:Value)(D:b.oneCell'=true)(p:S14.P)(y:Lay)(w:World)(C:NIs N L w)(i:N.parts[k]? = some p)(n:L.ys[k]? = some y)(pt:Nat)(l:N.part=(pt:Int))(Z:1≤pt)(h2:pt≤255) :
 Calls Tryz.prog 188 #[CV c,VV N L k b] w fun e w'=>e = .returned (.int .i64 (S10.getN p.sb p.sd p.slot (S14.node pt:Nat)))∧Below w w w':=by
 have X:k<N.parts.length:=(List.getElem?_eq_some_iff.1 i).1;have hP:=C.ps k p y i n;have f:=zC fun(W:World) (x:Below w w W)=>zbO N L k b D W (C.step x) X p y i n;have j:=zC fun(W:World)=>zpK N L k b W pt l Z h2;have g:=zC fun(W:World) (x:Below w w W)=>get10_any p.sb p.sd p.slot (S14.node pt:Nat) y.a2 y.c2 W (hP.tab.step x);obtain⟨R,E,r,G⟩:=zz2 (S10.getN p.sb p.sd p.slot (S14.node pt:Nat)) (S10.node p.sb p.sd p.slot (S14.node pt:Nat));rw[r,G]at g;rw[r];obtain⟨nd,ac⟩:=zvJ (S14.node pt);rw[ac]at g j;have m:=zC fun W=>(zdT p y W).2.1;have t:=zC fun W=>(zdT p y W).2.2.1;obtain⟨VM,sl,ad,M⟩:=zz2 (zcK p.sb p.sd y.a2 y.c2) p.slot;rw[ad]at m g;rw[M]at t g;unfold PV at f;obtain⟨VP,F⟩:=zvJ (yB p y);rw[F]at f m t;unfold VV at f j⊢;obtain⟨B,z,v,V,T,aa⟩:=zz3 N.comps.length N.parts.length N.ctxs.length;rw[V,T,aa,l]at f j⊢;obtain⟨W1,A,a,d,h⟩:=zfL w c 89 [.slice L.a1 B L.c1,.slice L.a2 z L.c2,.slice L.a3 v L.c3,pt,k,b];clear V T aa l C i n X D F ad M ac r G hP Z h2;obtain⟨Q,H,S,P,first,O⟩:=c;unfold CV;unfold zV at a A⊢;simp only at a A⊢;have u:Cells W1 [(⟨w.heap.size+1,0,none⟩,.slice L.a1 B L.c1),(⟨w.heap.size+1,1,none⟩,.slice L.a2 z L.c2),(⟨w.heap.size+1,2,none⟩,.slice L.a3 v L.c3),(⟨w.heap.size+1,3,none⟩,pt),(⟨w.heap.size+1,4,none⟩,k),(⟨w.heap.size+1,5,none⟩,b),(⟨w,0,none⟩,Q),(⟨w,1,none⟩,H),(⟨w,2,none⟩,S),(⟨w,3,none⟩,P),(⟨w,4,none⟩,first),(⟨w,5,none⟩,O)]:=⟨d.cell 0,d.cell 1,d.cell 2,d.cell 3,d.cell 4,d.cell 5,a.cell 0,a.cell 1,a.cell 2,a.cell 3,a.cell 4,a.cell 5,zT⟩;go_enter Tryz.func188,Tryz.ntmps188;go_wp2_with (rw[A]);refine zvL 13 1 [(U,0,1),(U,3,1),(U,6,1),(zvE,1,1),(U,2,1),(zvE,4,1),(U,5,1),(zvE,7,1),(zvE,8,1),(U,9,3),(zvE,12,1)] (Keeps W1 [(⟨w.heap.size+1,0,none⟩,.slice L.a1 B L.c1),(⟨w.heap.size+1,1,none⟩,.slice L.a2 z L.c2),(⟨w.heap.size+1,2,none⟩,.slice L.a3 v L.c3),(⟨w.heap.size+1,3,none⟩,pt),(⟨w.heap.size+1,4,none⟩,k),(⟨w.heap.size+1,5,none⟩,b),(⟨w,0,none⟩,Q),(⟨w,1,none⟩,H),(⟨w,2,none⟩,S),(⟨w,3,none⟩,P),(⟨w,4,none⟩,first),(⟨w,5,none⟩,O)]) (Keeps.start u) fun Y Q4 F4 hY I=> ?_;repeat refine mrd ?_
 refine mcl ?_;refine mck (Keeps.start u) (f.out _ (zA h (Keeps.start u).1)) fun w2 af o=> ?_;have ak:=m.out;repeat refine mrd ?_
 refine mcl ?_;refine mck o (f.out _ (zA h o.1)) fun w3 ag ab=> ?_;have ah:=t.out;repeat refine mrd ?_
 refine mcl ?_;refine mck ab (j.out _) fun w4 aj s=> ?_;repeat refine mrd ?_
 refine mcl ?_;refine mck s (g.out _ (zA h s.1)) fun w5 ai q=> ?_;repeat refine mrd ?_
 refine mvl (q) ?_;refine mdn I fun K J=> ?_;clear I hY;have ae:=zA h q.1;go_wp2_with fail;refine mok J ?_;clear J o ab s q;exact mf1 ae
theorem zuR(c:S14.C)(N:S14.N)(L:NLay)(k:Nat)(b:Value)(E:b.oneCell'=true)(p:S14.P)(y:Lay)(w:World)(v:NIs N L w)(h:N.parts[k]? = some p)(t:L.ys[k]? = some y)(pt:Nat)(z:N.part=(pt:Int))(l:1≤pt)(h2:pt≤255)
 (ah:S10.check p.sb p.sd=0) (hl:p.ctrs.length=215) :
 Calls Tryz.prog 185 #[CV c,VV N L k b] w fun e w'=>e = .returned (.int .i64 (S14.probe p (S10.getN p.sb p.sd p.slot (S14.node pt:Nat)).toNat))∧Below w w w':=by
 have hk:k<N.parts.length:=(List.getElem?_eq_some_iff.1 h).1;have S:=v.ps k p y h t;have j:=zC fun(W:World) (Q:Below w w W)=>zbO N L k b E W (v.step Q) hk p y h t;have D:=S10.getN_lt p.slot (S14.node pt:Nat) ah S.tab.ok;have d:=zC fun(W:World) (Q:Below w w W)=>zpP c N L k b E p y W (v.step Q) h t pt z l h2;obtain⟨i,hi⟩:∃i:Nat,S10.getN p.sb p.sd p.slot (S14.node pt:Nat)=(i:Int):=⟨_,(zgO D.1).symm⟩;rw[hi]at D d⊢;rw[Int.toNat_natCast];have ag:i<p.ctrs.length:=by omega
 obtain⟨g,o,ao,H⟩:=S.rc (fun e=>by have l:=yG List.length e;rw[yT]at l;simp at l;omega);obtain⟨X,ak⟩:=Cts_ix ag;have r:=H _ _ X;have s:=H _ _ ak;unfold S14.probe S14.ctr;have x:=zC fun W=>zhD (p.ctrs.getD i (0,0)).1 (p.ctrs.getD i (0,0)).2 W;obtain⟨u,hu⟩:=zvJ (p.ctrs.getD i (0,0));rw[hu]at r s x⊢;obtain⟨M,A⟩:=u;simp only at r s x⊢;obtain⟨q,hq⟩:=zvJ (S08.predict M A);have ai:=zC fun W=>zdA q W;rw[hq]at x⊢;obtain⟨R,V⟩:=zvJ (S06.stretch q);rw[V]at ai⊢;have O:=zC fun W=>(zdT p y W).1;obtain⟨m,F⟩:=zvJ p.ctrs.length;rw[ao,F]at O;rw[F]at ag;have av:(i:Int)<(m:Int):=by omega
 unfold PV at j;obtain⟨VP,ab⟩:=zvJ (yB p y);rw[ab]at j O;unfold VV at j d⊢;obtain⟨C,B,I,an,af,al⟩:=zz3 N.comps.length N.parts.length N.ctxs.length;rw[an,af,al,z]at j d⊢;obtain⟨W1,J,a,f,n⟩:=zfL w c 89 [.slice L.a1 C L.c1,.slice L.a2 B L.c2,.slice L.a3 I L.c3,pt,k,b];have d0:=(n.cell (zE r)).trans r;have d1:=(n.cell (zE s)).trans s;rw[←zcE]at d1;clear an af al z v h t hk E ab F V S l h2 ah hl hi ao H X ak hu hq r s D;obtain⟨am,aj,ae,ad,first,ac⟩:=c;unfold CV at d⊢;unfold zV at d a J⊢;simp only at d a J⊢;have P:Cells W1 [(⟨w.heap.size+1,0,none⟩,.slice L.a1 C L.c1),(⟨w.heap.size+1,1,none⟩,.slice L.a2 B L.c2),(⟨w.heap.size+1,2,none⟩,.slice L.a3 I L.c3),(⟨w.heap.size+1,3,none⟩,pt),(⟨w.heap.size+1,4,none⟩,k),(⟨w.heap.size+1,5,none⟩,b),(⟨w,0,none⟩,am),(⟨w,1,none⟩,aj),(⟨w,2,none⟩,ae),(⟨w,3,none⟩,ad),(⟨w,4,none⟩,first),(⟨w,5,none⟩,ac),(⟨g,o+i*2,none⟩,M),(⟨g,o+i*2+1,none⟩,A)]:=⟨f.cell 0,f.cell 1,f.cell 2,f.cell 3,f.cell 4,f.cell 5,a.cell 0,a.cell 1,a.cell 2,a.cell 3,a.cell 4,a.cell 5,d0,d1,zT⟩;go_enter Tryz.func185,Tryz.ntmps185;go_wp2_with (rw[J]);refine zvL 10 1 [(U,0,1),(U,3,2),(zvE,1,1),(U,2,1),(zvE,5,1),(U,6,2),(zvE,8,1),(zvE,9,1)] (Keeps W1 [(⟨w.heap.size+1,0,none⟩,.slice L.a1 C L.c1),(⟨w.heap.size+1,1,none⟩,.slice L.a2 B L.c2),(⟨w.heap.size+1,2,none⟩,.slice L.a3 I L.c3),(⟨w.heap.size+1,3,none⟩,pt),(⟨w.heap.size+1,4,none⟩,k),(⟨w.heap.size+1,5,none⟩,b),(⟨w,0,none⟩,am),(⟨w,1,none⟩,aj),(⟨w,2,none⟩,ae),(⟨w,3,none⟩,ad),(⟨w,4,none⟩,first),(⟨w,5,none⟩,ac),(⟨g,o+i*2,none⟩,M),(⟨g,o+i*2+1,none⟩,A)]) (Keeps.start P) fun Y Q4 F4 hY hF=> ?_;repeat refine mrd ?_
 refine mcl ?_;refine mck (Keeps.start P) (j.out _ (zA n (Keeps.start P).1)) fun w2 aq G=> ?_;have ax:=O.out;repeat refine mrd ?_
 refine mcl ?_;refine mck G (d.out _ (zA n G.1)) fun w3 ar aa=> ?_;repeat refine mrd ?_
 refine mcl ?_;refine mck aa (x.out _) fun w4 au Z=> ?_;repeat refine mrd ?_
 refine mcl ?_;refine mck Z (ai.out _) fun w5 aw T=> ?_;repeat refine mrd ?_
 refine mdn hF fun K hK=> ?_;clear hF hY;have ap:=zA n T.1;go_wp2_with fail;refine mok hK ?_;clear hK G aa Z T;exact mf1 ap
theorem zeV{x:Int}(a : -9223372036854775808≤x)(b:x≤9223372036854775807):IntKind.i64.wrap x=x:=by
 rw[zhU];omega
theorem zpY(c:S14.C)(p:S14.P)(y:Lay)(pt:Int)(n P:Nat)(hn:n≤16)(hb:c.bits=n)(ah:2^n=P)(w:World)(D:PIs p y w) :
 Calls Tryz.prog 259 #[CV c,PV p y,pt] w fun e w'=>e = .returned (.bool (S14.bare {p with ac:=[]}&&decide ((p.ac.length:Int)=33*(P:Int))&&decide (S11.check p.ac=0)))∧Below w w w':=by
 have hp:=zjY hn;rw[ah]at hp;have L:=zC fun W=>zgR c n P hn hb ah W;have x:=zC fun W=>zeP {p with ac:=[]} {y with a4:=none,c4:=0} W D.mch.lh D.mch.lb D.mch.lc;obtain⟨am,cm,I,al,an,af⟩:=D.apm;have I:Value.agg #[.slice y.a4 p.ac.length y.c4] = .agg #[.slice am p.ac.length cm]:=I;obtain⟨rfl,rfl⟩:y.a4=am∧y.c4=cm:=by simpa using I
 have HC:=zC fun(W:World) (hW:Below w w W)=>zrF p.ac y.a4 y.c4 W om (af.step hW);obtain⟨N,z,k1,r,B1⟩:=zcB w c 93 p y;have Q:=r.cell 15;have g:=r.set 15 (.slice none 0 0);have aj:=r.free 15;have hz:(yB p y).set 15 (.slice none 0 0)=yB {p with ac:=[]} {y with a4:=none,c4:=0}:=rfl;rw[hz]at g;have ae:(yB p y)[15]? = some (.slice y.a4 p.ac.length y.c4):=rfl;rw[ae]at Q;unfold PV at x⊢;unfold CV at L⊢;obtain⟨VP,C,ad,O⟩:=zz2 (yB p y) (yB {p with ac:=[]} {y with a4:=none,c4:=0});have F:some 16=some C.length:=by rw[←O];rfl
 rw[ad]at z r⊢;rw[O]at x g;obtain⟨q,hq⟩:=zvJ (S14.bare {p with ac:=[]});rw[hq]at x⊢;obtain⟨E,hE⟩:=zvJ (S11.check p.ac);rw[hE]at HC⊢;obtain⟨m,hm⟩:=zvJ p.ac.length;rw[hm]at HC Q al⊢;obtain⟨B,A,v,u,first,t⟩:=c;unfold zV at *;simp only at L k1 z⊢;clear hq hE hm hb D I ad O hz ae af;obtain⟨T,S⟩:∃T:Int,33*(P:Int)=T:=⟨_,rfl⟩;have aq:IntKind.i64.wrap (33*(P:Int))=T:=by rw[S];exact zeV om om
 rw[S];obtain⟨d,X⟩:∃d,decide ((m:Int)=T)=d:=⟨_,rfl⟩;have ao:((m:Int)==T)=d:=by rw[←X];rfl
 rw[X];clear X S;have ag:N.heap.size=w.heap.size+2:=by rw[←z];simp
 go_enter Tryz.func259,Tryz.ntmps259;go_wp2_with (rw[z]);obtain⟨G,aa⟩:=zvJ (N.setCell ⟨w.heap.size+1,15,none⟩ (.slice none 0 0));have ab:G.heap.size=w.heap.size+2:=by rw[←aa];simp[ag]
 have h:=k1.other (w.heap.size+1) 15 (.slice none 0 0) om;have J:Below w w (N.setCell ⟨w.heap.size+1,15,none⟩ (.slice none 0 0)):=B1.setCell (p:=⟨w.heap.size+1,15,none⟩) by1 _;rw[aa]at h J g⊢;obtain⟨l,Z⟩:=zvJ (G.alloc (.cells #[.slice y.a4 m y.c4] 48));have h:=h.alloc (.cells #[.slice y.a4 m y.c4] 48);have g:=g.alloc (.cells #[.slice y.a4 m y.c4] 48);have k7:=Blk.new G [.slice y.a4 m y.c4] 48;have o:=J.alloc J.size (.cells #[.slice y.a4 m y.c4] 48);rw[ab,show G.alloc (.cells [.slice y.a4 m y.c4].toArray 48)=l from Z]at k7;rw[Z]at h o g⊢;clear Z aa ab J z ag k1 r B1 Q aj;have i:Cells l [(⟨w,0,none⟩,B),(⟨w,1,none⟩,A),(⟨w,2,none⟩,v),(⟨w,3,none⟩,u),(⟨w,4,none⟩,first),(⟨w,5,none⟩,t),(⟨w.heap.size+2,0,none⟩,.slice y.a4 m y.c4)]:=⟨h.cell 0,h.cell 1,h.cell 2,h.cell 3,h.cell 4,h.cell 5,k7.cell 0,zT⟩;have H:=zC x;clear x;cases d with
 | true=>
   cases q with
   | false=>
     go_wp2_with fail;refine zvL 17 1 [(U,0,1),(zvE,1,1),(U,2,6),(zvE,8,1),(U,9,5),(zvE,14,1),(U,15,2)] (Keeps l [(⟨w,0,none⟩,B),(⟨w,1,none⟩,A),(⟨w,2,none⟩,v),(⟨w,3,none⟩,u),(⟨w,4,none⟩,first),(⟨w,5,none⟩,t),(⟨w.heap.size+2,0,none⟩,.slice y.a4 m y.c4)]) (Keeps.start i) fun Y M F4 hY b=> ?_;repeat refine mrd ?_
     apply zaH (by rw[hY];rfl)
     ·intro R j;exact zaZ 50 (.tmp 4) by3 (w.heap.size+1) by3 C (g.step j.1).cells _ Tryz.underlying50 rfl (info_P.trans F)
     simp only[zvF];refine mcl ?_;refine mck (Keeps.start i) (H.out.out _) fun w3 V a=> ?_;repeat refine mrd ?_
     repeat first|refine mud ?_|refine msk (a) ?_
     repeat refine mrd ?_
     repeat first|refine mud ?_|refine msk (a) ?_
     repeat refine mrd ?_
     refine mdn b fun K f=> ?_;clear b hY;have k:=zA o a.1;go_wp2_with fail;refine mok f ?_;clear f;go_wp2;go_returns;exact⟨zaA by1,k⟩
   | true=>
     go_wp2_with fail;refine zvL 17 1 [(U,0,1),(zvE,1,1),(U,2,6),(zvE,8,1),(U,9,5),(zvE,14,1),(U,15,2)] (Keeps l [(⟨w,0,none⟩,B),(⟨w,1,none⟩,A),(⟨w,2,none⟩,v),(⟨w,3,none⟩,u),(⟨w,4,none⟩,first),(⟨w,5,none⟩,t),(⟨w.heap.size+2,0,none⟩,.slice y.a4 m y.c4)]) (Keeps.start i) fun Y M F4 hY b=> ?_;repeat refine mrd ?_
     apply zaH (by rw[hY];rfl)
     ·intro R j;exact zaZ 50 (.tmp 4) by3 (w.heap.size+1) by3 C (g.step j.1).cells _ Tryz.underlying50 rfl (info_P.trans F)
     simp only[zvF];refine mcl ?_;refine mck (Keeps.start i) (H.out.out _) fun w3 V a=> ?_;repeat refine mrd ?_
     refine mcl ?_;refine mck a (L.out _) fun w4 ak s=> ?_;repeat refine mrd ?_
     refine mcl ?_;refine mck s (HC.out _ (zA o s.1)) fun w5 ap ai=> ?_;repeat refine mrd ?_
     refine mdn b fun K f=> ?_;clear b hY;have k:=zA o ai.1;go_wp2_with fail;refine mok f ?_;clear f;go_wp2;go_returns;exact⟨zaA (by first|(simp;done)|(simp;rfl)|rfl),k⟩
 | false=>
   cases q with
   | false=>
     go_wp2_with fail;refine zvL 17 1 [(U,0,1),(zvE,1,1),(U,2,6),(zvE,8,1),(U,9,5),(zvE,14,1),(U,15,2)] (Keeps l [(⟨w,0,none⟩,B),(⟨w,1,none⟩,A),(⟨w,2,none⟩,v),(⟨w,3,none⟩,u),(⟨w,4,none⟩,first),(⟨w,5,none⟩,t),(⟨w.heap.size+2,0,none⟩,.slice y.a4 m y.c4)]) (Keeps.start i) fun Y M F4 hY b=> ?_;repeat refine mrd ?_
     apply zaH (by rw[hY];rfl)
     ·intro R j;exact zaZ 50 (.tmp 4) by3 (w.heap.size+1) by3 C (g.step j.1).cells _ Tryz.underlying50 rfl (info_P.trans F)
     simp only[zvF];refine mcl ?_;refine mck (Keeps.start i) (H.out.out _) fun w3 V a=> ?_;repeat refine mrd ?_
     repeat first|refine mud ?_|refine msk (a) ?_
     repeat refine mrd ?_
     repeat first|refine mud ?_|refine msk (a) ?_
     repeat refine mrd ?_
     refine mdn b fun K f=> ?_;clear b hY;have k:=zA o a.1;go_wp2_with fail;refine mok f ?_;clear f;go_wp2;go_returns;exact⟨zaA by1,k⟩
   | true=>
     go_wp2_with fail;refine zvL 17 1 [(U,0,1),(zvE,1,1),(U,2,6),(zvE,8,1),(U,9,5),(zvE,14,1),(U,15,2)] (Keeps l [(⟨w,0,none⟩,B),(⟨w,1,none⟩,A),(⟨w,2,none⟩,v),(⟨w,3,none⟩,u),(⟨w,4,none⟩,first),(⟨w,5,none⟩,t),(⟨w.heap.size+2,0,none⟩,.slice y.a4 m y.c4)]) (Keeps.start i) fun Y M F4 hY b=> ?_;repeat refine mrd ?_
     apply zaH (by rw[hY];rfl)
     ·intro R j;exact zaZ 50 (.tmp 4) by3 (w.heap.size+1) by3 C (g.step j.1).cells _ Tryz.underlying50 rfl (info_P.trans F)
     simp only[zvF];refine mcl ?_;refine mck (Keeps.start i) (H.out.out _) fun w3 V a=> ?_;repeat refine mrd ?_
     refine mcl ?_;refine mck a (L.out _) fun w4 ak s=> ?_;repeat refine mrd ?_
     repeat first|refine mud ?_|refine msk (s) ?_
     repeat refine mrd ?_
     refine mdn b fun K f=> ?_;clear b hY;have k:=zA o s.1;go_wp2_with fail;refine mok f ?_;clear f;go_wp2;go_returns;exact⟨zaA by1,k⟩
theorem inputs14_big(c:S14.C)(h:0≤c.first∧c.first≤c.second∧c.second≤9223372036854775806)(w:World):Calls Tryz.prog 235 #[CV c] w fun e b=>e = .returned (.int .i64 (c.second-c.first+1))∧Below w w b:=by
 obtain⟨i,f,k,g,first,a⟩:=c;unfold CV zV;simp only at h⊢;have j:IntKind.i64.wrap (a-first)=a-first:=zeV om om;have d:IntKind.i64.wrap (a-first+1)=a-first+1:=zeV om om;go_enter Tryz.func235,Tryz.ntmps235;go_wp2;go_returns;exact⟨rfl,(zJ _ _).alloc (zF _) _⟩
theorem zuL(c:S14.C)(p:S14.P)(y:Lay)(pt:Int)(n P:Nat)(hn:n≤16)(hb:c.bits=n)(ae:2^n=P)(al:0≤c.first∧c.first≤c.second∧c.second≤9223372036854775806)(w:World)(G:PIs p y w) :
 Calls Tryz.prog 239 #[CV c,PV p y,pt] w fun e w'=>e = .returned (.bool (S14.bare {p with mi:=0,mw:=[]}&&(p.mi==c.second-c.first+1)&&decide ((p.mw.length:Int)=(P:Int))&&decide (S13.check 16 p.mi p.mw=0)))∧Below w w w':=by
 have hp:=zjY hn;rw[ae]at hp;have N:=zC fun W=>zgR c n P hn hb ae W;have A:=zC fun W=>zeP {p with mi:=0,mw:=[]} {y with a3:=none,c3:=0} W G.mch.lh G.mch.lb G.mch.lc;have M:=zC fun(W:World) (hW:Below w w W)=>zrE p.mi p.mw (.agg (MixC p y).toArray) W (G.mix.step hW);unfold MixC at M;obtain⟨S,B,k1,j,B1⟩:=zcB w c 92 p y;have O:=j.cell 13;have ad:=j.cell 14;have am:=j.free 13;have an:=j.free 14;have f:=(j.set 13 (.int .i64 0)).set 14 (.slice none 0 0);have hz:((yB p y).set 13 (.int .i64 0)).set 14 (.slice none 0 0)=yB {p with mi:=0,mw:=[]} {y with a3:=none,c3:=0}:=rfl;rw[hz]at f;have ai:(yB p y)[13]? = some (.int .i64 p.mi):=rfl;have ak:(yB p y)[14]? = some (.slice y.a3 p.mw.length y.c3):=rfl;rw[ai]at O;rw[ak]at ad;unfold PV at A⊢;unfold CV at N⊢;obtain⟨VP,F,ag,V⟩:=zz2 (yB p y) (yB {p with mi:=0,mw:=[]} {y with a3:=none,c3:=0});have H:some 16=some F.length:=by rw[←V];rfl
 rw[ag]at B j⊢;rw[V]at A f;obtain⟨q,hq⟩:=zvJ (S14.bare {p with mi:=0,mw:=[]});rw[hq]at A⊢;obtain⟨E,hE⟩:=zvJ (S13.check 16 p.mi p.mw);rw[hE]at M⊢;obtain⟨m,mi,Z,Q⟩:=zz2 p.mw.length p.mi;rw[Z,Q]at M;rw[Z]at ad⊢;rw[Q]at O⊢;have s:=zC fun W=>inputs14_big c al W;unfold CV at s;obtain⟨D,C,z,x,first,r⟩:=c;unfold zV at *;simp only at N s k1 B⊢;obtain⟨T,hT⟩:∃T:Int,r-first+1=T:=⟨_,rfl⟩;rw[hT]at s⊢;obtain⟨d,hd⟩:=zvJ ((mi==T));rw[hd];obtain⟨d2,X⟩:∃d,decide ((m:Int)=(P:Int))=d:=⟨_,rfl⟩;have aq:((m:Int)==(P:Int))=d2:=by rw[←X];rfl
 rw[X];clear hq hE Z hb G ag V hz ai ak Q hT X al ae;have aj:S.heap.size=w.heap.size+2:=by rw[←B];simp
 go_enter Tryz.func239,Tryz.ntmps239;go_wp2_with (rw[B]);obtain⟨I,ac⟩:=zvJ ((S.setCell ⟨w.heap.size+1,13,none⟩ (.int .i64 0)).setCell ⟨w.heap.size+1,14,none⟩ (.slice none 0 0));have af:I.heap.size=w.heap.size+2:=by rw[←ac];simp[aj]
 have h:=(k1.other (w.heap.size+1) 13 (.int .i64 0) om).other (w.heap.size+1) 14 (.slice none 0 0) om;have L:Below w w ((S.setCell ⟨w.heap.size+1,13,none⟩ (.int .i64 0)).setCell ⟨w.heap.size+1,14,none⟩ (.slice none 0 0)):=(B1.setCell (p:=⟨w.heap.size+1,13,none⟩) by1 _).setCell (p:=⟨w.heap.size+1,14,none⟩) by1 _;rw[ac]at h L f⊢;obtain⟨t,ab⟩:=zvJ (I.alloc (.cells #[mi,.slice y.a3 m y.c3] 46));have h:=h.alloc (.cells #[mi,.slice y.a3 m y.c3] 46);have f:=f.alloc (.cells #[mi,.slice y.a3 m y.c3] 46);have k7:=Blk.new I [mi,.slice y.a3 m y.c3] 46;have u:=L.alloc L.size (.cells #[mi,.slice y.a3 m y.c3] 46);rw[af,show I.alloc (.cells [.int .i64 mi,.slice y.a3 m y.c3].toArray 46)=t from ab]at k7;rw[ab]at h u f⊢;clear ab ac af L B aj k1 j B1 O am ad an;have i:Cells t [(⟨w,0,none⟩,D),(⟨w,1,none⟩,C),(⟨w,2,none⟩,z),(⟨w,3,none⟩,x),(⟨w,4,none⟩,first),(⟨w,5,none⟩,r),(⟨w.heap.size+2,0,none⟩,mi),(⟨w.heap.size+2,1,none⟩,.slice y.a3 m y.c3)]:=⟨h.cell 0,h.cell 1,h.cell 2,h.cell 3,h.cell 4,h.cell 5,k7.cell 0,k7.cell 1,zT⟩;have J:=zC A;clear A;cases q with
 | false=>
   go_wp2_with fail;refine zvL 23 1 [(U,0,1),(zvE,1,1),(U,2,4),(zvE,6,1),(U,7,8),(zvE,15,1),(U,16,4),(zvE,20,1),(U,21,2)] (Keeps t [(⟨w,0,none⟩,D),(⟨w,1,none⟩,C),(⟨w,2,none⟩,z),(⟨w,3,none⟩,x),(⟨w,4,none⟩,first),(⟨w,5,none⟩,r),(⟨w.heap.size+2,0,none⟩,mi),(⟨w.heap.size+2,1,none⟩,.slice y.a3 m y.c3)]) (Keeps.start i) fun Y R F4 hY a=> ?_;repeat refine mrd ?_
   apply zaH (by rw[hY];rfl)
   ·intro w2 l;exact zaZ 50 (.tmp 4) by3 (w.heap.size+1) by3 F (f.step l.1).cells _ Tryz.underlying50 rfl (info_P.trans H)
   simp only[zvF];refine mcl ?_;refine mck (Keeps.start i) (J.out.out _) fun w3 aa g=> ?_;repeat refine mrd ?_
   repeat first|refine mud ?_|refine msk (g) ?_
   repeat refine mrd ?_
   repeat first|refine mud ?_|refine msk (g) ?_
   repeat refine mrd ?_
   repeat first|refine mud ?_|refine msk (g) ?_
   repeat refine mrd ?_
   refine mdn a fun K b=> ?_;clear a hY;have o:=zA u g.1;go_wp2_with fail;refine mok b ?_;clear b;go_wp2;go_returns;exact⟨zaA (by first|(simp;done)|(simp;rfl)|rfl),o⟩
 | true=>
   cases d with
   | false=>
     go_wp2_with fail;refine zvL 23 1 [(U,0,1),(zvE,1,1),(U,2,4),(zvE,6,1),(U,7,8),(zvE,15,1),(U,16,4),(zvE,20,1),(U,21,2)] (Keeps t [(⟨w,0,none⟩,D),(⟨w,1,none⟩,C),(⟨w,2,none⟩,z),(⟨w,3,none⟩,x),(⟨w,4,none⟩,first),(⟨w,5,none⟩,r),(⟨w.heap.size+2,0,none⟩,mi),(⟨w.heap.size+2,1,none⟩,.slice y.a3 m y.c3)]) (Keeps.start i) fun Y R F4 hY a=> ?_;repeat refine mrd ?_
     apply zaH (by rw[hY];rfl)
     ·intro w2 l;exact zaZ 50 (.tmp 4) by3 (w.heap.size+1) by3 F (f.step l.1).cells _ Tryz.underlying50 rfl (info_P.trans H)
     simp only[zvF];refine mcl ?_;refine mck (Keeps.start i) (J.out.out _) fun w3 aa g=> ?_;repeat refine mrd ?_
     refine mcl ?_;refine mck g (s.out _) fun w4 ah k=> ?_;repeat refine mrd ?_
     repeat first|refine mud ?_|refine msk (k) ?_
     repeat refine mrd ?_
     repeat first|refine mud ?_|refine msk (k) ?_
     repeat refine mrd ?_
     refine mdn a fun K b=> ?_;clear a hY;have o:=zA u k.1;go_wp2_with fail;refine mok b ?_;clear b;go_wp2;go_returns;exact⟨zaA (by first|(simp;done)|(simp;rfl)|rfl),o⟩
   | true=>
     cases d2 with
     | false=>
       go_wp2_with fail;refine zvL 23 1 [(U,0,1),(zvE,1,1),(U,2,4),(zvE,6,1),(U,7,8),(zvE,15,1),(U,16,4),(zvE,20,1),(U,21,2)] (Keeps t [(⟨w,0,none⟩,D),(⟨w,1,none⟩,C),(⟨w,2,none⟩,z),(⟨w,3,none⟩,x),(⟨w,4,none⟩,first),(⟨w,5,none⟩,r),(⟨w.heap.size+2,0,none⟩,mi),(⟨w.heap.size+2,1,none⟩,.slice y.a3 m y.c3)]) (Keeps.start i) fun Y R F4 hY a=> ?_;repeat refine mrd ?_
       apply zaH (by rw[hY];rfl)
       ·intro w2 l;exact zaZ 50 (.tmp 4) by3 (w.heap.size+1) by3 F (f.step l.1).cells _ Tryz.underlying50 rfl (info_P.trans H)
       simp only[zvF];refine mcl ?_;refine mck (Keeps.start i) (J.out.out _) fun w3 aa g=> ?_;repeat refine mrd ?_
       refine mcl ?_;refine mck g (s.out _) fun w4 ah k=> ?_;repeat refine mrd ?_
       refine mcl ?_;refine mck k (N.out _) fun w5 ap v=> ?_;repeat refine mrd ?_
       repeat first|refine mud ?_|refine msk (v) ?_
       repeat refine mrd ?_
       refine mdn a fun K b=> ?_;clear a hY;have o:=zA u v.1;go_wp2_with fail;refine mok b ?_;clear b;go_wp2;go_returns;exact⟨zaA (by first|(simp;done)|(simp;rfl)|rfl),o⟩
     | true=>
       go_wp2_with fail;refine zvL 23 1 [(U,0,1),(zvE,1,1),(U,2,4),(zvE,6,1),(U,7,8),(zvE,15,1),(U,16,4),(zvE,20,1),(U,21,2)] (Keeps t [(⟨w,0,none⟩,D),(⟨w,1,none⟩,C),(⟨w,2,none⟩,z),(⟨w,3,none⟩,x),(⟨w,4,none⟩,first),(⟨w,5,none⟩,r),(⟨w.heap.size+2,0,none⟩,mi),(⟨w.heap.size+2,1,none⟩,.slice y.a3 m y.c3)]) (Keeps.start i) fun Y R F4 hY a=> ?_;repeat refine mrd ?_
       apply zaH (by rw[hY];rfl)
       ·intro w2 l;exact zaZ 50 (.tmp 4) by3 (w.heap.size+1) by3 F (f.step l.1).cells _ Tryz.underlying50 rfl (info_P.trans H)
       simp only[zvF];refine mcl ?_;refine mck (Keeps.start i) (J.out.out _) fun w3 aa g=> ?_;repeat refine mrd ?_
       refine mcl ?_;refine mck g (s.out _) fun w4 ah k=> ?_;repeat refine mrd ?_
       refine mcl ?_;refine mck k (N.out _) fun w5 ap v=> ?_;repeat refine mrd ?_
       refine mcl ?_;refine mck v (M.out _ (zA u v.1)) fun w6 ar ao=> ?_;repeat refine mrd ?_
       refine mdn a fun K b=> ?_;clear a hY;have o:=zA u ao.1;go_wp2_with fail;refine mok b ?_;clear b;go_wp2;go_returns;exact⟨zaA (by first|(simp;done)|(simp;rfl)|rfl),o⟩
theorem Blk.there14{w:World}{b o n:Nat}{a:List Value}{t:TypeId}(h:Blk w b a t)(d:o+n≤a.length):w.there b o n:=fun j c=>
 ⟨by rw[h.cell,zD om];rfl,h.free _⟩
theorem Blk.mid14{w:World}{b o n:Nat}{c sub:List Value}{t:TypeId}(h:Blk w b c t)(d:(c.drop o).take n=sub):w.rangeAt b o sub:=fun j v a=>by
 rw[←d,zbG]at a;split at a
 ·rw[zdI]at a;rw[h.cell];exact a
 ·cases a
theorem info_M14:(Tryz.prog.info? 43).map (·.size)=some 9:=by kernel_rfl
theorem zqP(c:S14.C)(p:S14.P)(y:Lay)(pt:Int)(w:World)(hP:PIs p y w) :
 Calls Tryz.prog 202 #[CV c,PV p y,pt] w fun e w'=>e = .returned (.bool (S14.bare {p with m:=S14.zM}&&(p.m.bits==c.bits)&&(p.m.least==c.limit)&&(p.m.part==pt)&&decide (S12.check p.m=0)))∧Below w w w':=by
 have h:=zC fun W=>zeP {p with m:=S14.zM} {y with pl:=⟨none,0,none,0,none,0⟩} W (zfY _) (zfY _) (zfY _);have j:=zC fun(W:World) (hW:Below w w W)=>zfU p.m y.pl W (hP.mch.step hW);obtain⟨G,i,k,d,B1⟩:=zcB w c 90 p y;have R:=d.mid14 (o:=4) (n:=9) (sub:=yX p.m y.pl) rfl;have D:splice (yB p y) 4 [.int .i64 0,.int .i64 0,.slice none 0 0,.slice none 0 0,.int .i64 0,.int .i64 0,.int .i64 0,.int .i64 0,.slice none 0 0]=yB {p with m:=S14.zM} {y with pl:=⟨none,0,none,0,none,0⟩}:=rfl;have x:(yX p.m y.pl)[0]? = some (.int .i64 p.m.bits):=rfl;have C:(yX p.m y.pl)[1]? = some (.int .i64 p.m.least):=rfl;have z:(yX p.m y.pl)[6]? = some (.int .i64 p.m.part):=rfl;have K:some 9=some (yX p.m y.pl).length:=rfl;have S:∀v∈yX p.m y.pl,v.oneCell'=true:=by
  intro v hv;simp only[yX,List.mem_cons,zbU,or_false]at hv;rcases hv with rfl|rfl|rfl|rfl|rfl|rfl|rfl|rfl|rfl<;>rfl
 have I:∃x2 x3 x4 x5 x7 x8:Value,yX p.m y.pl = [.int .i64 p.m.bits,.int .i64 p.m.least,x2,x3,x4,x5,.int .i64 p.m.part,x7,x8]:=⟨_,_,_,_,_,_,rfl⟩;unfold MV at j;unfold PV at h⊢;unfold CV;obtain⟨VP,VM,VZ,t,ad,s⟩:=zz3 (yB p y) (yX p.m y.pl) (yB {p with m:=S14.zM} {y with pl:=⟨none,0,none,0,none,0⟩});have X:some 16=some VZ.length:=by rw[←s];rfl
 have ab:VP.length=16:=by rw[←t];rfl
 rw[t,s]at D;rw[t]at i d⊢;rw[ad]at j R x C z I K S;rw[s]at h;obtain⟨q,hq⟩:=zvJ (S14.bare {p with m:=S14.zM});rw[hq]at h⊢;obtain⟨E,hE⟩:=zvJ (S12.check p.m);rw[hE]at j⊢;obtain⟨m1,m2,m7,T,M,L⟩:=zz3 p.m.bits p.m.least p.m.part;rw[T]at x⊢;rw[M]at C⊢;rw[L]at z⊢;rw[T,M,L]at I;obtain⟨x2,x3,x4,x5,x7,x8,l⟩:=I;have V:=zC l;clear l;obtain⟨au,am,al,aq,first,ap⟩:=c;unfold zV at *;simp only at k i⊢;obtain⟨d1,d2,d3,ah,aj,ak⟩:=zz3 ((m1==am)) ((m2==al)) ((m7==pt));rw[ah,aj,ak];obtain⟨Hz,aa,an⟩:=zh3 D ab X;clear D ab X;obtain⟨H,ag⟩:=zh2 K S;clear hq hE T M L hP t s ad K S;have ae:G.heap.size=w.heap.size+2:=by rw[←i];simp
 obtain⟨W2,u,_,B⟩:=al1 G [.int .i64 0,.int .i64 0,.slice none 0 0,.slice none 0 0,.int .i64 0,.int .i64 0,.int .i64 0,.int .i64 0,.slice none 0 0] 43;have Z:Blk W2 (w.heap.size+2) [.int .i64 0,.int .i64 0,.slice none 0 0,.slice none 0 0,.int .i64 0,.int .i64 0,.int .i64 0,.int .i64 0,.slice none 0 0] 43:=by rw[←u,←ae];exact Blk.new G _ _
 have d:=d.step B;have k:=k.step B;have A:=zA B1 B;clear B1;go_enter Tryz.func202,Tryz.ntmps202;go_wp2_with (first
  | (rw[i])
  | (refine wpList_load_mid by3 43 (.tmp 8) by3 (w.heap.size+1) 4 by3 VM _ R Tryz.underlying43 rfl (info_M14.trans H.out) ?_)
  | (rw[u,ae])
  | (rw[u])
  | (refine st43 (.tmp 7) (.tmp 9) VM Z ?_ H.out (zI H.out) ag.out;intro a E7 f z7;clear z7;have U:=d.keptRow f (by intro e;have:=zI e;omega);have af:=k.keptRow f (by intro e;have:=zI e;omega);have Y:a.there (w.heap.size+1) 4 (List.toArray ([.int .i64 0,.int .i64 0,.slice none 0 0,.slice none 0 0,.int .i64 0,.int .i64 0,.int .i64 0,.int .i64 0,.slice none 0 0]:List Value)).size:=U.there14 (o:=4) (n:=9) (by rw[aa.out];decide))
  | (refine wpList_store_mid by3 43 (.tmp 11) (.tmp 10) by3 (w.heap.size+1) 4 (List.toArray ([.int .i64 0,.int .i64 0,.slice none 0 0,.slice none 0 0,.int .i64 0,.int .i64 0,.int .i64 0,.int .i64 0,.slice none 0 0]:List Value)) by3 by3 Y info_M14 (all_oneCell_toArray by4) ?_;have r:=U.setCells [.int .i64 0,.int .i64 0,.slice none 0 0,.slice none 0 0,.int .i64 0,.int .i64 0,.int .i64 0,.int .i64 0,.slice none 0 0] 4 (by rw[aa.out];decide);rw[Hz.out]at r;have F:=af.keptRow (yL (w.heap.size+1) [.int .i64 0,.int .i64 0,.slice none 0 0,.slice none 0 0,.int .i64 0,.int .i64 0,.int .i64 0,.int .i64 0,.slice none 0 0] 4 a) (by intro e;have:=zI e;omega);have Q:=E7.keptRow (yL (w.heap.size+1) [.int .i64 0,.int .i64 0,.slice none 0 0,.slice none 0 0,.int .i64 0,.int .i64 0,.int .i64 0,.int .i64 0,.slice none 0 0] 4 a) (by intro e;have:=zI e;omega);obtain⟨W8,N⟩:=zvJ (a.setCells (w.heap.size+1) 4 [.int .i64 0,.int .i64 0,.slice none 0 0,.slice none 0 0,.int .i64 0,.int .i64 0,.int .i64 0,.int .i64 0,.slice none 0 0]);have J:Below w w (a.setCells (w.heap.size+1) 4 [.int .i64 0,.int .i64 0,.slice none 0 0,.slice none 0 0,.int .i64 0,.int .i64 0,.int .i64 0,.int .i64 0,.slice none 0 0]):=(A.trans (yA f om A.size)).trans (yA (yL (w.heap.size+1) [.int .i64 0,.int .i64 0,.slice none 0 0,.slice none 0 0,.int .i64 0,.int .i64 0,.int .i64 0,.int .i64 0,.slice none 0 0] 4 a) om (by have:=f.size;have:=A.size;omega));rw[N]at r F Q J;have ac:a.setCells (w.heap.size+1) 4 (List.toArray ([.int .i64 0,.int .i64 0,.slice none 0 0,.slice none 0 0,.int .i64 0,.int .i64 0,.int .i64 0,.int .i64 0,.slice none 0 0]:List Value)).toList=W8:=N;rw[ac])
  | (refine ld50 (.tmp 4) r ?_ an.out))
 refine mnb J (h.out _) fun w9 P g=> ?_;have O:=F.step P;have b:=Q.step P;have e1:=O.cell 1;have e2:=O.cell 2;have f0:=(b.cell 0).trans x;have f1:=(b.cell 1).trans C;have f6:=(b.cell 6).trans z;simp only[zvH]at e1 e2;clear P J F Q h r U af Z d k O R x C z Hz i u N Y E7 f B A ac;cases q with
 | false=>
   go_wp2;exact mf3 g
 | true=>
   cases d1 with
   | false=>
     go_wp2;exact mf3 g
   | true=>
     cases d2 with
     | false=>
       go_wp2;exact mf3 g
     | true=>
       cases d3 with
       | false=>
         go_wp2;exact mf3 g
       | true=>
         have l:=V.out;rw[l]at b j;obtain⟨g0,g1,g2,g3,g4,g5,g6,f,g8⟩:=b.c9;clear f0 f1 f6 l V b;go_wp2_with fail;refine mnb g (j.out _ g) fun ar ao ai=> ?_;go_wp2;go_returns;exact⟨zaA (by first|(simp;done)|(simp;rfl)|rfl),ai⟩
theorem zqU(c:S14.C)(p:S14.P)(y:Lay)(pt:Int)(n P:Nat)(hn:n≤16)(hb:c.bits=n)(am:2^n=P)(w:World)(x:PIs p y w) :
 Calls Tryz.prog 186 #[CV c,PV p y,pt] w fun e w'=>e = .returned (.bool ((decide (p.ctrs.length=215) && !p.ctrs.any (S14.badC c.limit))&&(p.sb==c.bits)&&decide (S10.check p.sb p.sd=0)&&S14.has p.slot 0 ((P:Int)-1)&&S14.bare {p with ctrs:=[],sb:=0,sd:=[],slot:=0}))∧Below w w w':=by
 have hp:=zjY hn;rw[am]at hp;have Z:=zC fun W=>zgR c n P hn hb am W;have R:=zC fun W=>zeP {p with ctrs:=[],sb:=0,sd:=[],slot:=0} {y with a1:=none,c1:=0,a2:=none,c2:=0} W x.mch.lh x.mch.lb x.mch.lc;have H:=zC fun W=>zhI W;have o:=zC fun(W:World) (hW:Below w w W)=>zhO p.ctrs 215 c.limit y.a1 y.c1 W by2 (x.rc.step hW);have I:=zC fun(W:World) (hW:Below w w W)=>zfV p.sb p.sd x.tab.ok y.a2 y.c2 x.tab.cap W (x.tab.rd.step hW);have T:=zC fun W=>zaR p.slot 0 ((P:Int)-1) W;have ar:IntKind.i64.wrap ((P:Int)-1)=(P:Int)-1:=zeV om om;obtain⟨k,ac,v,s,i⟩:=zcB w c 89 p y;have J:k.cell? ⟨w.heap.size+1,0,none⟩=some (.slice y.a1 p.ctrs.length y.c1):=s.cell 0;have c1:k.cell? ⟨w.heap.size+1,1,none⟩=some (.int .i64 p.sb):=s.cell 1;have c2:k.cell? ⟨w.heap.size+1,2,none⟩=some (.slice y.a2 p.sd.length y.c2):=s.cell 2;have G:k.cell? ⟨w.heap.size+1,3,none⟩=some (.int .i64 p.slot):=s.cell 3;have M:((((yB p y).set 0 (.slice none 0 0)).set 1 (.int .i64 0)).set 2 (.slice none 0 0)).set 3 (.int .i64 0)=yB {p with ctrs:=[],sb:=0,sd:=[],slot:=0} {y with a1:=none,c1:=0,a2:=none,c2:=0}:=rfl;unfold PV at R⊢;unfold CV at Z⊢;obtain⟨VP,VZ,ah,aa⟩:=zz2 (yB p y) (yB {p with ctrs:=[],sb:=0,sd:=[],slot:=0} {y with a1:=none,c1:=0,a2:=none,c2:=0});have af:some 16=some VZ.length:=by rw[←aa];rfl
 rw[ah]at ac s M⊢;rw[aa]at R M;obtain⟨q,hq⟩:=zvJ (S14.bare {p with ctrs:=[],sb:=0,sd:=[],slot:=0});rw[hq]at R⊢;obtain⟨r,hr⟩:∃r,(decide (p.ctrs.length=215) && !p.ctrs.any (S14.badC c.limit))=r:=⟨_,rfl⟩;rw[hr]at o⊢;obtain⟨E,hE⟩:=zvJ (S10.check p.sb p.sd);rw[hE]at I⊢;obtain⟨h,hh⟩:=zvJ (S14.has p.slot 0 ((P:Int)-1));rw[hh]at T⊢;obtain⟨m1,m2,sb,D,al,ad,ae,ak⟩:=zz4 p.ctrs.length p.sd.length p.sb p.slot;rw[al]at o J;rw[ad,ae]at I;rw[ad]at c2;rw[ae]at c1⊢;rw[ak]at G T;obtain⟨F,u,B,A,first,z⟩:=c;unfold zV at *;simp only at Z o v ac⊢;obtain⟨d1,ag⟩:=zvJ ((sb==u));have au:(sb != u) = !d1:=by rw[←ag];rfl
 obtain⟨d2,ab⟩:∃d,decide (E=0)=d:=⟨_,rfl⟩;have av:(E != 0) = !d2:=by rw[←ab];rfl
 rw[ag,ab];obtain⟨Hz,ao⟩:=zh2 M af;clear hq hE hr hh al ad ae ak hb x ah aa ab M af;have j:Cells k [(⟨w,0,none⟩,F),(⟨w,1,none⟩,u),(⟨w,2,none⟩,B),(⟨w,3,none⟩,A),(⟨w,4,none⟩,first),(⟨w,5,none⟩,z),(⟨w.heap.size+1,0,none⟩,.slice y.a1 m1 y.c1),(⟨w.heap.size+1,1,none⟩,sb),(⟨w.heap.size+1,2,none⟩,.slice y.a2 m2 y.c2),(⟨w.heap.size+1,3,none⟩,D)]:=⟨v.cell 0,v.cell 1,v.cell 2,v.cell 3,v.cell 4,v.cell 5,J,c1,c2,G,zT⟩;go_enter Tryz.func186,Tryz.ntmps186;go_wp2_with (rw[ac]);cases r with
 | false=>
   go_wp2_with fail;refine zvL 33 0 [(U,0,2),(U,3,3),(zvE,2,1),(zvE,6,1),(U,7,13),(zvE,20,1),(U,21,7),(zvE,28,1),(U,29,1),(zvE,30,1),(U,31,2)] (Keeps k [(⟨w,0,none⟩,F),(⟨w,1,none⟩,u),(⟨w,2,none⟩,B),(⟨w,3,none⟩,A),(⟨w,4,none⟩,first),(⟨w,5,none⟩,z),(⟨w.heap.size+1,0,none⟩,.slice y.a1 m1 y.c1),(⟨w.heap.size+1,1,none⟩,sb),(⟨w.heap.size+1,2,none⟩,.slice y.a2 m2 y.c2),(⟨w.heap.size+1,3,none⟩,D)]) (Keeps.start j) fun Y O X hY f=> ?_;repeat refine mrd ?_
   refine mcl ?_;refine mck (Keeps.start j) (H.out _) fun Q L b=> ?_;repeat refine mrd ?_
   refine mcl ?_;refine mck b (o.out _ (zA i b.1)) fun V S a=> ?_;repeat refine mrd ?_
   repeat first|refine mud ?_|refine msk (a) ?_
   repeat refine mrd ?_
   repeat first|refine mud ?_|refine msk (a) ?_
   repeat refine mrd ?_
   repeat first|refine mud ?_|refine msk (a) ?_
   repeat refine mrd ?_
   repeat first|refine mud ?_|refine msk (a) ?_
   repeat refine mrd ?_
   refine mdn f fun K g=> ?_;clear f hY;have m:=zA i a.1;refine mok g ?_;clear g;go_wp2;exact mf3 m
 | true=>
   cases d1 with
   | false=>
     go_wp2_with fail;refine zvL 33 0 [(U,0,2),(U,3,3),(zvE,2,1),(zvE,6,1),(U,7,13),(zvE,20,1),(U,21,7),(zvE,28,1),(U,29,1),(zvE,30,1),(U,31,2)] (Keeps k [(⟨w,0,none⟩,F),(⟨w,1,none⟩,u),(⟨w,2,none⟩,B),(⟨w,3,none⟩,A),(⟨w,4,none⟩,first),(⟨w,5,none⟩,z),(⟨w.heap.size+1,0,none⟩,.slice y.a1 m1 y.c1),(⟨w.heap.size+1,1,none⟩,sb),(⟨w.heap.size+1,2,none⟩,.slice y.a2 m2 y.c2),(⟨w.heap.size+1,3,none⟩,D)]) (Keeps.start j) fun Y O X hY f=> ?_;repeat refine mrd ?_
     refine mcl ?_;refine mck (Keeps.start j) (H.out _) fun Q L b=> ?_;repeat refine mrd ?_
     refine mcl ?_;refine mck b (o.out _ (zA i b.1)) fun V S a=> ?_;repeat refine mrd ?_
     repeat first|refine mud ?_|refine msk (a) ?_
     repeat refine mrd ?_
     repeat first|refine mud ?_|refine msk (a) ?_
     repeat refine mrd ?_
     repeat first|refine mud ?_|refine msk (a) ?_
     repeat refine mrd ?_
     refine mdn f fun K g=> ?_;clear f hY;have m:=zA i a.1;refine mok g ?_;clear g;go_wp2;exact mf3 m
   | true=>
     cases d2 with
     | false=>
       go_wp2_with fail;refine zvL 33 0 [(U,0,2),(U,3,3),(zvE,2,1),(zvE,6,1),(U,7,13),(zvE,20,1),(U,21,7),(zvE,28,1),(U,29,1),(zvE,30,1),(U,31,2)] (Keeps k [(⟨w,0,none⟩,F),(⟨w,1,none⟩,u),(⟨w,2,none⟩,B),(⟨w,3,none⟩,A),(⟨w,4,none⟩,first),(⟨w,5,none⟩,z),(⟨w.heap.size+1,0,none⟩,.slice y.a1 m1 y.c1),(⟨w.heap.size+1,1,none⟩,sb),(⟨w.heap.size+1,2,none⟩,.slice y.a2 m2 y.c2),(⟨w.heap.size+1,3,none⟩,D)]) (Keeps.start j) fun Y O X hY f=> ?_;repeat refine mrd ?_
       refine mcl ?_;refine mck (Keeps.start j) (H.out _) fun Q L b=> ?_;repeat refine mrd ?_
       refine mcl ?_;refine mck b (o.out _ (zA i b.1)) fun V S a=> ?_;repeat refine mrd ?_
       refine mcl ?_;refine mck a (I.out _ (zA i a.1)) fun w4 aj t=> ?_;repeat refine mrd ?_
       repeat first|refine mud ?_|refine msk (t) ?_
       repeat refine mrd ?_
       repeat first|refine mud ?_|refine msk (t) ?_
       repeat refine mrd ?_
       refine mdn f fun K g=> ?_;clear f hY;have m:=zA i t.1;refine mok g ?_;clear g;go_wp2;exact mf3 m
     | true=>
       cases h with
       | false=>
         go_wp2_with fail;refine zvL 33 0 [(U,0,2),(U,3,3),(zvE,2,1),(zvE,6,1),(U,7,13),(zvE,20,1),(U,21,7),(zvE,28,1),(U,29,1),(zvE,30,1),(U,31,2)] (Keeps k [(⟨w,0,none⟩,F),(⟨w,1,none⟩,u),(⟨w,2,none⟩,B),(⟨w,3,none⟩,A),(⟨w,4,none⟩,first),(⟨w,5,none⟩,z),(⟨w.heap.size+1,0,none⟩,.slice y.a1 m1 y.c1),(⟨w.heap.size+1,1,none⟩,sb),(⟨w.heap.size+1,2,none⟩,.slice y.a2 m2 y.c2),(⟨w.heap.size+1,3,none⟩,D)]) (Keeps.start j) fun Y O X hY f=> ?_;repeat refine mrd ?_
         refine mcl ?_;refine mck (Keeps.start j) (H.out _) fun Q L b=> ?_;repeat refine mrd ?_
         refine mcl ?_;refine mck b (o.out _ (zA i b.1)) fun V S a=> ?_;repeat refine mrd ?_
         refine mcl ?_;refine mck a (I.out _ (zA i a.1)) fun w4 aj t=> ?_;repeat refine mrd ?_
         refine mcl ?_;refine mck t (Z.out _) fun w5 ap N=> ?_;repeat refine mrd ?_
         refine mcl ?_;refine mck N (T.out _) fun w6 an l=> ?_;repeat refine mrd ?_
         refine mdn f fun K g=> ?_;clear f hY;have m:=zA i l.1;refine mok g ?_;clear g;go_wp2;exact mf3 m
       | true=>
         go_wp2_with fail;refine zvL 33 0 [(U,0,2),(U,3,3),(zvE,2,1),(zvE,6,1),(U,7,13),(zvE,20,1),(U,21,7),(zvE,28,1),(U,29,1),(zvE,30,1),(U,31,2)] (Keeps k [(⟨w,0,none⟩,F),(⟨w,1,none⟩,u),(⟨w,2,none⟩,B),(⟨w,3,none⟩,A),(⟨w,4,none⟩,first),(⟨w,5,none⟩,z),(⟨w.heap.size+1,0,none⟩,.slice y.a1 m1 y.c1),(⟨w.heap.size+1,1,none⟩,sb),(⟨w.heap.size+1,2,none⟩,.slice y.a2 m2 y.c2),(⟨w.heap.size+1,3,none⟩,D)]) (Keeps.start j) fun Y O X hY f=> ?_;repeat refine mrd ?_
         refine mcl ?_;refine mck (Keeps.start j) (H.out _) fun Q L b=> ?_;repeat refine mrd ?_
         refine mcl ?_;refine mck b (o.out _ (zA i b.1)) fun V S a=> ?_;repeat refine mrd ?_
         refine mcl ?_;refine mck a (I.out _ (zA i a.1)) fun w4 aj t=> ?_;repeat refine mrd ?_
         refine mcl ?_;refine mck t (Z.out _) fun w5 ap N=> ?_;repeat refine mrd ?_
         refine mcl ?_;refine mck N (T.out _) fun w6 an l=> ?_;repeat refine mrd ?_
         refine mdn f fun K g=> ?_;clear f hY;have m:=zA i l.1;refine mok g ?_;clear g;have C:=s.step l.1;have kZ:=(((C.set 0 (.slice none 0 0)).set 1 (.int .i64 0)).set 2 (.slice none 0 0)).set 3 (.int .i64 0);rw[Hz.out]at kZ;have n0:=(s.step l.1).cell 0;have f0:=C.free 0;have f1:=C.free 1;have f2:=C.free 2;have f3:=C.free 3;have e0:=(l.1.cell (zE J)).trans J;have e1:=(l.1.cell (zE c1)).trans c1;have e2:=(l.1.cell (zE c2)).trans c2;have e3:=(l.1.cell (zE G)).trans G;have b0:=m.trans (yA (zbS w6 (w.heap.size+1) 0 (.slice none 0 0)) om m.size);have b1:=b0.trans (yA (zbS _ (w.heap.size+1) 1 (.int .i64 0)) om b0.size);have b2:=b1.trans (yA (zbS _ (w.heap.size+1) 2 (.slice none 0 0)) om b1.size);have BZ:=b2.trans (yA (zbS _ (w.heap.size+1) 3 (.int .i64 0)) om b2.size);obtain⟨WZ,ai⟩:=zvJ ((((w6.setCell ⟨w.heap.size+1,0,none⟩ (.slice none 0 0)).setCell ⟨w.heap.size+1,1,none⟩ (.int .i64 0)).setCell ⟨w.heap.size+1,2,none⟩ (.slice none 0 0)).setCell ⟨w.heap.size+1,3,none⟩ (.int .i64 0));rw[ai]at kZ BZ;clear b0 b1 b2 n0 C b a t N l J c1 c2 G v s j;go_wp2_with (first
          | (rw[ai])
          | (refine ld50 (.tmp 4) kZ ?_ ao.out))
         refine mnb BZ (R.out _) fun w8 aq B8=> ?_;go_wp2;exact mf3 B8
theorem zmC(n:Nat):((2^n:Nat):Int)=(2:Int)^n:=by simp
theorem zpV(N:S14.N)(L:NLay)(w:World)(g:NIs N L w):zeQ N L w:=fun k c p y m i l j W n=>by
 have e:=S14.ok_is i;have a:=(g.ps k p y l j).step n;have b:=yP e.bits.1;have d:c.bits.toNat≤16:=by have:=e.bits;omega
 rcases e.kind with h|h|h|h|h|h|h
 ·unfold zhT S14.right;rw[zQ h,zQ h];exact zhQ c p y N.part W a
 ·unfold zhT S14.right;rw[zG om,zQ h,zG om,zQ h];exact zjQ c p y N.part c.bits.toNat _ d b rfl W a
 ·unfold zhT S14.right;rw[zG om,zG om,zQ h,zG om,zG om,zQ h];have H:=zqU c p y N.part c.bits.toNat _ d b rfl W a;rw[zmC]at H;exact H
 ·unfold zhT S14.right;rw[zG om,zG om,zG om,zQ h,zG om,zG om,zG om,zQ h];exact zqP c p y N.part W a
 ·unfold zhT S14.right;rw[zG om,zG om,zG om,zG om,zQ h,zG om,zG om,zG om,zG om,zQ h];exact ziV c p y N.part W a
 ·have f:=e.mix h;unfold zhT S14.right;rw[zG om,zG om,zG om,zG om,zG om,zQ h,zG om,zG om,zG om,zG om,zG om,zQ h];have H:=zuL c p y N.part c.bits.toNat _ d b rfl ⟨f.1,f.2.1,by have o:=(List.getElem?_eq_some_iff.1 m).1;have q:=g.l1;omega⟩ W a;rw[zmC]at H;exact H
 ·unfold zhT S14.right;rw[zG om,zG om,zG om,zG om,zG om,zG om,zG om,zG om,zG om,zG om,zG om,zG om,zQ h];have H:=zpY c p y N.part c.bits.toNat _ d b rfl W a;rw[zmC]at H;exact H
def S14.outA(N:S14.N)(k:Nat)(bef:List Int):Int:=
 if(N.comps.getD k S14.zc).kind=2 then S14.probe (N.parts.getD k S14.P0) (S10.getN (N.parts.getD k S14.P0).sb (N.parts.getD k S14.P0).sd (N.parts.getD k S14.P0).slot (S14.node N.part.toNat:Nat)).toNat
 else if(N.comps.getD k S14.zc).kind=3 then S14.outM (N.parts.getD k S14.P0).m
 else if(N.comps.getD k S14.zc).kind=5 then S13.mixR (N.parts.getD k S14.P0).mi (N.parts.getD k S14.P0).mw (S14.at_ N k (N.comps.getD k S14.zc):Nat) ((bef.drop (N.comps.getD k S14.zc).first.toNat).take ((N.comps.getD k S14.zc).second.toNat+1-(N.comps.getD k S14.zc).first.toNat))
 else if(N.comps.getD k S14.zc).kind=6 then S06.stretch (S11.refineR (N.parts.getD k S14.P0).ac (S14.at_ N k (N.comps.getD k S14.zc):Nat) (S06.squash (bef.getD (N.comps.getD k S14.zc).first.toNat 0)))
 else S14.outB N k bef
theorem S13.mixR_bounds(n:Int)(L:List (List Int))(c:Int)(xs:List Int) : -3071≤S13.mixR n L c xs∧S13.mixR n L c xs≤3071:=by
 unfold S13.mixR;split
 ·unfold S13.mix;exact S06.clip_bounds _
 ·omega
theorem zoC{c:S14.C}{p:S14.P}{pt:Int}(h:c.kind=2)(a:S14.right c p pt=true):S10.check p.sb p.sd=0∧p.ctrs.length=215:=by
 unfold S14.right at a;rw[zG om,zG om,zQ h]at a;unfold S14.okCtrs at a;simp only[zS,yC]at a;exact⟨a.1.1.2,a.1.1.1.1.1⟩
theorem zhB{c:S14.C}{k:Int}(h:c.kind=6)(a:S14.ok c k=true):0≤c.first∧c.first<k:=by
 unfold S14.ok at a;rw[zG om,zG om,zG om,zG om,zG om,zG om,zQ h]at a;unfold S14.okRefine at a;simp only[zS,S14.has_iff]at a;omega
theorem zqG(N:S14.N)(L:NLay)(w:World)(B:NIs N L w)(A:S14.checkNet N=0):zgG N L w (S14.outA N):=fun k c i v a W F l t x=>by
 obtain⟨p,y,f,j,M,H,u,s,C,J,I⟩:=zsO B A i;have d:=S14.ok_is s;have K:k<16:=by
  have r:=(List.getElem?_eq_some_iff.1 i).1;have G:=(S14.check_zero (S14.checkNet_zero A).1).2.1;omega
 have n:=yP (b:=N.part) om;have m:=B.step F;unfold S14.outA S14.outB;rw[yS i,yS f];rcases d.kind with h|h|h|h|h|h|h
 ·unfold OutF;rw[zQ h,zG om,zG om,zG om,zG om,zQ h];exact⟨zrC c N L k _ W,S06.stretch_bounds _⟩
 ·unfold OutF;rw[zG om,zQ h,zG om,zG om,zG om,zG om,zG om,zQ h];exact⟨zoG c N L k _ rfl p y c.bits.toNat W m i f j u N.part.toNat n om (yP d.bits.1) (by have:=d.bits;omega) (zgD h C),S06.stretch_bounds _⟩
 ·unfold OutF;have z:=zoC h C;rw[zG om,zG om,zQ h,zQ h];exact⟨zuR c N L k _ rfl p y W m f j N.part.toNat n om om z.1 z.2,S06.stretch_bounds _⟩
 ·unfold OutF;rw[zG om,zG om,zG om,zQ h,zG om,zQ h];exact⟨zuO c N L k _ rfl p y W m f j,S14.outM_bounds _⟩
 ·unfold OutF;have q:=ziU h s;subst t;rw[zG om,zG om,zG om,zG om,zQ h,zG om,zG om,zG om,zG om,zG om,zG om];exact⟨zlJ c N L _ a _ v W x q.1 q.2.1 q.2.2 l,S14.avg_in x q.1⟩
 ·unfold OutF;have D:=d.mix h;obtain⟨g,o,rfl,_⟩:=l (fun e=>by have r:=yG List.length e;rw[zR,List.length_nil]at r;omega);rw[zG om,zG om,zG om,zG om,zG om,zQ h,zG om,zG om,zQ h];exact⟨mixed14_out c N L k g o p y c.bits.toNat c.first.toNat c.second.toNat v W m i f j u N.part.toNat n om (yP d.bits.1) (by have:=d.bits;omega) (yP D.1) (yP om) om om om t l,S13.mixR_bounds _ _ _ _⟩
 ·unfold OutF;have E:=zhB h s;obtain⟨g,o,rfl,_⟩:=l (fun e=>by have r:=yG List.length e;rw[zR,List.length_nil]at r;omega);rw[zG om,zG om,zG om,zG om,zG om,zG om,zG om,zG om,zG om,zQ h];exact⟨ztW c N L k g o p y c.bits.toNat c.first.toNat v W m i f j u N.part.toNat n om (yP d.bits.1) (by have:=d.bits;omega) (yP E.1) om t l,S06.stretch_bounds _⟩
theorem MIs.rowF{m:S12.M}{p:Pl}{w w':World}{B b:Nat}(h:MIs m p w)(c:Far B p)(a:w.grownBy w' (some b))(d:b<B):MIs m p w':=
 ⟨h.rdh.keptRow a (fun g o e=>by have:=c.1 g o e;omega),h.rdb.keptRow a (fun g o e=>by have:=c.2.1 g o e;omega),h.rdc.keptRow a (fun g o e=>by have:=c.2.2 g o e;omega),h.byt,h.cb,h.lh,h.lb,h.lc⟩
theorem MIs.keptF{m:S12.M}{p:Pl}{w w':World}{B:Nat}(h:MIs m p w)(b:Far B p)(a:Kept 0 B w w'):MIs m p w':=
 ⟨h.rdh.kept a (fun g o e=>.inr (b.1 g o e)),h.rdb.kept a (fun g o e=>.inr (b.2.1 g o e)),h.rdc.kept a (fun g o e=>.inr (b.2.2 g o e)),h.byt,h.cb,h.lh,h.lb,h.lc⟩
theorem MVals_one(m:S12.M)(p:Pl):∀v∈yX m p,v.oneCell'=true:=by
 intro v a;simp only[yX,List.mem_cons,zbU,or_false]at a;rcases a with rfl|rfl|rfl|rfl|rfl|rfl|rfl|rfl|rfl<;>rfl
theorem zbQ{p:S14.P}(h:S14.bare p=true):p.ctrs = []∧p.sd = []∧p.mw = []∧p.ac = []∧p.m.heads = []∧p.m.bytes = []∧p.m.ctrs = []:=by
 unfold S14.bare S14.noM at h;simp only[zS,yC]at h;obtain⟨⟨⟨⟨⟨⟨⟨a,_⟩,c⟩,_⟩,_,e⟩,_⟩,d⟩,b⟩:=h;exact⟨List.length_eq_zero_iff.1 a,List.length_eq_zero_iff.1 c,List.length_eq_zero_iff.1 d,List.length_eq_zero_iff.1 b,List.length_eq_zero_iff.1 om,List.length_eq_zero_iff.1 om,List.length_eq_zero_iff.1 om⟩
theorem Tab.nil14{xs:List Int}{a:Option Addr}{cap:Nat}{w w':World}(h:Tab xs a cap w)(b:xs = []):Tab xs a cap w':=by
 subst b;exact⟨h.ok,h.cap,Rd.nil _ _⟩
theorem MixIs.nil14{n:Int}{l:List (List Int)}{V:Value}{w w':World}(h:MixIs n l V w)(g:l = []):MixIs n l V w':=by
 subst g;obtain⟨R,a,i,d,b,c,f,k,m⟩:=h;have e:R = []:=List.map_eq_nil_iff.1 d.symm;subst e;exact⟨[],a,i,rfl,b,c,f,Rd.nil _ _,fun r j=>by cases j⟩
theorem MapIs.nil14{l:List Int}{V:Value}{w w':World}(h:MapIs l V w)(e:l = []):MapIs l V w':=by
 subst e;obtain⟨a,f,d,b,c,g⟩:=h;exact⟨a,f,d,b,c,Rd.nil _ _⟩
theorem MIs.nil14{m:S12.M}{p:Pl}{w w':World}(h:MIs m p w)(b:m.heads = [])(c:m.bytes = [])(a:m.ctrs = []):MIs m p w':=
 ⟨by rw[b];exact Rd.nil _ _,by rw[c];exact Rd.nil _ _,by rw[a];exact Rd.nil _ _,h.byt,h.cb,h.lh,h.lb,h.lc⟩
theorem PIs.bare14{p:S14.P}{y:Lay}{w w':World}(h:PIs p y w)(a:S14.bare p=true):PIs p y w':=by
 obtain⟨c,i,d,g,e,b,f⟩:=zbQ a;exact⟨by rw[c];exact Rd.nil _ _,h.tab.nil14 i,h.mch.nil14 e b f,h.mix.nil14 d,h.apm.nil14 g⟩
theorem PIs.bareM{p:S14.P}{y:Lay}{w w':World}{m:S12.M}{pl:Pl}(h:PIs p y w)(b:S14.bare {p with m:=S14.zM}=true)(e:MIs m pl w'):PIs {p with m:=m} {y with pl:=pl} w':=by
 obtain⟨a,f,c,d,_,_,_⟩:=zbQ b;have a:p.ctrs = []:=a;exact⟨by show Rd w' y.a1 (Cts p.ctrs);rw[a];exact Rd.nil _ _,h.tab.nil14 f,e,h.mix.nil14 c,h.apm.nil14 d⟩
theorem zqQ(c:S14.C)(N:S14.N)(L:NLay)(k:Nat)(b:Value)(hb:b.oneCell'=true)(p:S14.P)(y:Lay)(bit:Int)(w:World)(hN:NIs N L w)(v:N.parts[k]? = some p)(T:L.ys[k]? = some y)(hE:S12.bitE p.m bit=0)(ae:S14.bare {p with m:=S14.zM}=true) :
 Calls Tryz.prog 199 #[CV c,VV N L k b,bit] w fun e l=>∃y',e = .returned (.tuple #[PV {p with m:=S12.bitR p.m bit} y',.int .i64 0])∧PRob 0 w.heap.size {p with m:=S12.bitR p.m bit} y' l∧Below w w l:=by
 have z:k<N.parts.length:=(List.getElem?_eq_some_iff.1 v).1;have hP:=hN.ps k p y v T;have s:=zC fun(W:World) (hW:Below w w W)=>zbO N L k b hb W (hN.step hW) z p y v T;have q:=zC fun(W:World) (hW:Below w w W)=>bit12_any p.m y.pl bit W (hP.mch.step hW);rw[hE]at q;obtain⟨g,ai⟩:∃m,S12.bitR p.m bit=m:=⟨_,rfl⟩;rw[ai]at q⊢;have aG:=zC fun(pl:Pl) (l:World) (hm:MIs g pl l)=>hP.bareM ae hm;have am:=zC fun(pl:Pl)=>(show yB {p with m:=g} {y with pl:=pl}=splice (yB p y) 4 (yX g pl)from rfl);obtain⟨pt,ac⟩:=zvJ N.part;unfold PV VV at s;unfold VV CV PV;have G:((yB p y).drop 4).take 9=yX p.m y.pl:=rfl;have R:(yB p y).length=16:=rfl;have Y:=zbC p y;have Z:(yX p.m y.pl).length=9:=rfl;obtain⟨VP,VM,af,al⟩:=zz2 (yB p y) (yX p.m y.pl);rw[af]at s G R Y am;unfold MV at q;rw[al]at q G Z;obtain⟨au,A,aC,aI⟩:=zh4 G R Y Z;clear af al hP hN v T z hb G R Y Z ai hE ae;obtain⟨nc,np,nx,ap,ah,ak⟩:=zz3 N.comps.length N.parts.length N.ctxs.length;rw[ap,ah,ak,ac]at s⊢;obtain⟨r,H,k1,x,B0⟩:=zfL w c 90 [.slice L.a1 nc L.c1,.slice L.a2 np L.c2,.slice L.a3 nx L.c3,pt,k,b];have aH:r.heap.size=w.heap.size+2:=by rw[←H];simp
 obtain⟨W1,C⟩:=zvJ (r.alloc (.cells zP 50));have Q:Below r r W1:=by rw[←C];exact(zJ _ _).alloc (zF _) _
 have a:Blk W1 (w.heap.size+2) (yB S14.P0 zfF) 50:=by rw[←C,←aH];exact zfH r
 have x:=x.step Q;have B1:=zA B0 Q;clear ap ah ak ac k1 B0;go_enter Tryz.func199,Tryz.ntmps199;go_wp2_with (first
  | (rw[H])
  | (refine zaK 50 zP zdF by3 by3 ?_;first|rw[C]|skip)
  | (refine ld68 (.tmp 4) x ?_))
 refine mnb B1 (s.out _ B1) fun u ad B2=> ?_;have a:=a.step ad;have aA:=a.lt;obtain⟨d,W3,K,F⟩:=zz2 u.heap.size (u.alloc (.cells zP 50));have I:Below u u W3:=by rw[←F];exact(zJ _ _).alloc (zF _) _
 have K8:Blk W3 d (yB S14.P0 zfF) 50:=by rw[←F,←K];exact zfH u
 have a:=a.step I;have B3:=zA B2 I;have aK:w.heap.size+2<d:=by rw[←K];exact aA
 clear H C x Q B1 ad B2 I s;go_wp2_with (first
  | (refine zaK 50 zP zdF by3 by3 ?_;rw[F,K])
  | (refine st50 (.tmp 8) (.tmp 12) VP K8 ?_ (yG some A.out.symm) A.out.symm aC.out;intro s3 B V z3;clear z3;have ao:=B.mid14 (o:=4) (n:=9) au.out)
  | (refine wpList_load_mid by3 43 (.tmp 14) by3 d 4 by3 VM _ ao Tryz.underlying43 rfl (info_M14.trans (yG some aI.out.symm)) ?_))
 have a:=a.keptRow V (by intro e;have:=zI e;omega);have B4:=B3.trans (yA V om B3.size);have av:=B.lt;refine(q.out _ B4).mono ?_;rintro e w4 ⟨h,rfl,hI,ar,D⟩;have J:=B.step D;have a:=a.step D;have B5:=zA B4 D;have S:=MVals_one g h;have O:(yX g h).length=9:=rfl;have P:=am.out h;obtain⟨f,aj⟩:=zvJ (yX g h);rw[aj]at S O P⊢;obtain⟨an,i,HI,M⟩:=zh4 S O hI ar;have az:=zC P;obtain⟨b9,ab⟩:=zvJ w4.heap.size;obtain⟨W5,aa,_,t⟩:=al1 w4 [.int .i64 0,.int .i64 0,.slice none 0 0,.slice none 0 0,.int .i64 0,.int .i64 0,.int .i64 0,.int .i64 0,.slice none 0 0] 43;have K9:Blk W5 b9 [.int .i64 0,.int .i64 0,.slice none 0 0,.slice none 0 0,.int .i64 0,.int .i64 0,.int .i64 0,.int .i64 0,.slice none 0 0] 43:=by rw[←aa,←ab];exact Blk.new w4 _ _
 have ay:=J.lt;have aJ:d<b9:=by rw[←ab];exact ay
 have E5:=J.step t;have a:=a.step t;have B6:=zA B5 t;have aq:=zC t;clear S O hI ar P D B3 K8 V B ao J t B5 aj q F;go_wp2_with (first
  | (rw[aa,ab])
  | (rw[aa])
  | (refine st43 (.tmp 9) (.tmp 18) f K9 ?_ (yG some i.out.symm) i.out.symm an.out;intro j F5 E z5;clear z5;have E6:=E5.keptRow E (by intro e;have:=zI e;omega);have aw:=a.keptRow E (by intro e;have:=zI e;omega);have ax:j.there d 4 f.toArray.size:=by
      rw[zfX,i.out];exact E6.there14 (by rw[A.out];decide))
  | (refine ld43 (.tmp 9) F5 ?_ (yG some i.out.symm))
  | (refine wpList_store_mid by3 43 (.tmp 21) (.tmp 20) by3 d 4 f.toArray by3 by3 ax (info_M14.trans (yG some (i.out.symm.trans List.size_toArray.symm))) (all_oneCell_toArray an.out) ?_;have U:=E6.setCells f 4 (by rw[A.out,i.out];decide);rw[←az.out]at U;have ag:=aw.keptRow (yL d f 4 j) (by intro e;have:=zI e;omega);obtain⟨W8,X⟩:=zvJ (j.setCells d 4 f);have G8:j.grownBy W8 (some d):=by rw[←X];exact yL d f 4 j
     rw[X]at U ag;have aB:j.setCells d 4 f.toArray.toList=W8:=X;rw[aB])
  | (refine ld50 (.tmp 8) U ?_)
  | (refine st50 (.tmp 6) (.tmp 22) (yB {p with m:=g} {y with pl:=h}) ag ?_;intro wL EL gL sL))
 have hL:=lv50 EL;have aD:=HI.out.step (aq.out.trans (yA E om aq.out.size));have aE:=aD.rowF M.out G8 av;have aF:=aE.rowF M.out gL om;have B7:=B6.trans (yA E om B6.size);have B8:=B7.trans (yA G8 om B7.size);refine rL2 hL ?_;exact⟨{y with pl:=h},rfl,fun l z=>aG.out h l (aF.keptF (M.out.mono om) z),B8.trans (yA gL om B8.size)⟩
theorem PIs.bareC{p:S14.P}{y:Lay}{w w':World}{l:List (Int×Int)}{a:Option Addr}{cap:Nat}(h:PIs p y w)(b:S14.bare {p with ctrs:=[]}=true)(j:Rd w' a (Cts l)):PIs {p with ctrs:=l} {y with a1:=a,c1:=cap} w':=by
 obtain⟨_,d,e,i,f,c,g⟩:=zbQ b;exact⟨j,h.tab.nil14 d,h.mch.nil14 f c g,h.mix.nil14 e,h.apm.nil14 i⟩
theorem zuS{c:S14.C}{p:S14.P}{pt:Int}(h:c.kind=1)(a:S14.right c p pt=true):S14.bare {p with ctrs:=[]}=true:=by
 unfold S14.right at a;rw[zG om,zQ h]at a;simp only[zS]at a;exact a.1
theorem zoH{c:S14.C}{p:S14.P}{pt:Int}(h:c.kind=0∨c.kind=4)(a:S14.right c p pt=true):S14.bare p=true:=by
 unfold S14.right at a;rcases h with h|h
 ·rw[zQ h]at a;exact a
 ·rw[zG om,zG om,zG om,zG om,zQ h]at a;exact a
theorem ziR(c:S14.C)(N:S14.N)(L:NLay)(k:Nat)(b:Value)(hb:b.oneCell'=true)(p:S14.P)(y:Lay)(n:Nat)(bit:Int)(w:World)(aK:S14.bare {p with ctrs:=[]}=true)(hN:NIs N L w)(hc:N.comps[k]? = some c)(H:N.parts[k]? = some p)(hy:L.ys[k]? = some y)(hx:k<N.ctxs.length)(pt:Nat)(af:N.part=(pt:Int))(aN:pt<4294967296)
 (hn:c.bits=(n:Int)) (ak:n≤16) (F:p.ctrs.length=2^n) :
 Calls Tryz.prog 154 #[CV c,VV N L k b,bit] w fun e A=>∃y',e = .returned (.tuple #[PV {p with ctrs:=S14.upd p.ctrs (S14.index (N.ctxs.getD k 0) pt n) bit c.limit} y',.int .i64 0])∧
  PRob 0 w.heap.size {p with ctrs:=S14.upd p.ctrs (S14.index (N.ctxs.getD k 0) pt n) bit c.limit} y' A∧Below w w A:=by
 have M:k<N.parts.length:=(List.getElem?_eq_some_iff.1 H).1;have hP:=hN.ps k p y H hy;have S:=S14.index_lt (N.ctxs.getD k 0) pt ak;rw[←F]at S;have ar:p.ctrs.length≤65536:=by rw[F];exact(zjY ak).2
 have r:=zC fun(W:World) (G:Below w w W)=>zbO N L k b hb W (hN.step G) M p y H hy;have aa:=zC fun(W:World) (G:Below w w W)=>zeK N L k b W (hN.step G) hx pt af aN c hc n hn ak;obtain⟨i,hi⟩:=zvJ (S14.index (N.ctxs.getD k 0) pt n);rw[hi]at S aa⊢;have J:=zC fun(W:World) (G:Below w w W)=>zkP p.ctrs i S ar bit c.limit y.a1 y.c1 W (hP.rc.step G);have aS:=zC fun(a:Option Addr) (cap:Nat) (l:List (Int×Int)) (A:World) (hr:Rd A a (Cts l))=>hP.bareC (cap:=cap) aK hr;unfold PV at r;have aP:∃f,yB p y = .slice y.a1 p.ctrs.length y.c1::f∧f.length=15∧∀(a:Option Addr) (cap:Nat) (l:List (Int×Int)),l.length=p.ctrs.length→yB {p with ctrs:=l} {y with a1:=a,c1:=cap} = .slice a p.ctrs.length cap::f:=⟨_,rfl,rfl,fun a cap l F=>by unfold yB;simp only[F]⟩;obtain⟨f,av,R,aF⟩:=aP;have ae:=zbC p y;rw[av]at r ae;have ay:(S14.upd p.ctrs i bit c.limit).length=p.ctrs.length:=by unfold S14.upd;rw[yH]
 have aj:=zC fun a cap=>aF a cap (S14.upd p.ctrs i bit c.limit) ay;obtain⟨ul,aB⟩:=zvJ (S14.upd p.ctrs i bit c.limit);rw[aB]at J aj⊢;obtain⟨m,hm⟩:=zvJ p.ctrs.length;rw[hm]at r J aj ae;obtain⟨ad,V,u,Q,first,P⟩:=c;unfold CV zV;simp only at J⊢;unfold VV at r aa⊢;obtain⟨t,s,x,aG,au,aC⟩:=zz3 N.comps.length N.parts.length N.ctxs.length;rw[aG,au,aC,af]at r aa⊢;clear aG au aC hm aB ay hi av aF hP hN H hy hc hx M F hb ar S af hn;obtain⟨O,E⟩:=zvJ (((w.alloc (.cells #[ad,V,u,Q,first,P] 88)).alloc (.cells #[.slice L.a1 t L.c1,.slice L.a2 s L.c2,.slice L.a3 x L.c3,pt,k,b] 68)).alloc (.cells zP 50));have k1:Blk O w [ad,V,u,Q,first,P] 88:=by rw[←E];exact((Blk.new w _ _).alloc _).alloc _
 have k2:Blk O (w.heap.size+1) [.slice L.a1 t L.c1,.slice L.a2 s L.c2,.slice L.a3 x L.c3,pt,k,b] 68:=by
  rw[←E];have h:=(Blk.new (w.alloc (.cells #[ad,V,u,Q,first,P] 88)) [.slice L.a1 t L.c1,.slice L.a2 s L.c2,.slice L.a3 x L.c3,pt,k,b] 68).alloc (.cells zP 50);rwa[zY]at h
 have k3:Blk O (w.heap.size+1+1) (yB S14.P0 zfF) 50:=by
  rw[←E];have h:=zfH ((w.alloc (.cells #[ad,V,u,Q,first,P] 88)).alloc (.cells #[.slice L.a1 t L.c1,.slice L.a2 s L.c2,.slice L.a3 x L.c3,pt,k,b] 68));rwa[zY,zY]at h
 have B1:Below w w O:=by rw[←E];exact(((zJ _ _).alloc (zF _) _).alloc by1 _).alloc by7 _
 obtain⟨e0,e1,e2,e3,e4,e5⟩:=k2.c6;go_enter Tryz.func154,Tryz.ntmps154;go_wp2_with (first
  | (refine zaK 50 zP zdF by3 by3 ?_;rw[E])
  | fail)
 refine mnb B1 (r.out _ B1) fun q an B2=> ?_;obtain⟨w3,ai⟩:=zvJ (q.alloc (.cells zP 50));have kP:Blk w3 q (yB S14.P0 zfF) 50:=by rw[←ai];exact zfH q
 have T:Below q q w3:=by rw[←ai];exact(zJ _ _).alloc (zF _) _
 have aV:(yB S14.P0 zfF).length=(Value.slice y.a1 m y.c1::f).length:=by rw[zbL,R];rfl
 have aJ:some 16=some (Value.slice y.a1 m y.c1::f).length:=by rw[zbL,R]
 have Z:=zA an T;have ap:=k1.step Z;have aH:=k2.step Z;have aw:=k3.step Z;have aR:w.heap.size+1+1<q.heap.size:=(k3.step an).lt;go_wp2_with (first
  | (refine zaK 50 zP zdF by3 by3 ?_;rw[ai])
  | (refine st50 (.tmp 8) (.tmp 10) (Value.slice y.a1 m y.c1::f) kP ?_ aJ aV ae;intro w4 X D s4))
 have aA:Below q q w4:=T.trans (yA D (zF _) T.size);have B4:=zA B2 aA;have aQ:=ap.keptRow D (fun e=>by have:=zI e;omega);have z:=aH.keptRow D (fun e=>by have:=zI e;omega);have aW:=aw.keptRow D (fun e=>by have:=zI e;omega);have aL:q.heap.size<w4.heap.size:=X.lt;obtain⟨B,hB⟩:=zvJ q.heap.size;rw[hB]at X aR aL⊢;clear D s4 ap aH aw kP aA T Z hB;have aE:=X.cell 0;simp only[lgz]at aE;have al:Cells w4 [(⟨B,0,none⟩,.slice y.a1 m y.c1),(⟨w.heap.size+1,0,none⟩,.slice L.a1 t L.c1),(⟨w.heap.size+1,1,none⟩,.slice L.a2 s L.c2),(⟨w.heap.size+1,2,none⟩,.slice L.a3 x L.c3),(⟨w.heap.size+1,3,none⟩,pt),(⟨w.heap.size+1,4,none⟩,k),(⟨w.heap.size+1,5,none⟩,b),(⟨w,2,none⟩,u)]:=⟨aE,z.cell 0,z.cell 1,z.cell 2,z.cell 3,z.cell 4,z.cell 5,aQ.cell 2,zT⟩;refine zvL 9 2 [(U,0,3),(U,4,4),(zvE,3,1),(zvE,8,1)] (Keeps w4 [(⟨B,0,none⟩,.slice y.a1 m y.c1),(⟨w.heap.size+1,0,none⟩,.slice L.a1 t L.c1),(⟨w.heap.size+1,1,none⟩,.slice L.a2 s L.c2),(⟨w.heap.size+1,2,none⟩,.slice L.a3 x L.c3),(⟨w.heap.size+1,3,none⟩,pt),(⟨w.heap.size+1,4,none⟩,k),(⟨w.heap.size+1,5,none⟩,b),(⟨w,2,none⟩,u)]) (Keeps.start al) fun Y Q4 F4 hY hF=> ?_;repeat refine mrd ?_
 refine mcl ?_;refine mck (Keeps.start al) (aa.out _ (zA B4 (Keeps.start al).1)) fun w5 aZ I=> ?_;refine mcl ?_;refine(J.out _ (zA B4 I.1)).mono ?_;rintro e w6 ⟨d,j,rfl,ab,az,aT⟩;have C:=I.step aT;refine⟨_,rfl,C,?_⟩;simp only[zvF];refine mdn hF fun K hK=> ?_;clear hF hY;have ac:=(X.step C.1);have aD:=aW.step C.1;have B6:=zA B4 C.1;have a0:=I.1.size;have aY:=C.1.size;have q0:=ac.cell 0;have a2:=ac.free 0;simp only[lgz]at q0;have ag:=ac.set 0 (.slice d m j);have ao:=aD.other B 0 (.slice d m j) om;rw[List.set_cons_zero]at ag;have am:∀g o,d=some ⟨g,o,none⟩→g≠B:=fun g o e=>by have:=ab g o e;omega
 have aI:=az.keptRow (yZ w6 B 0 (.slice d m j)) am;have B7:Below w w (w6.setCell ⟨B,0,none⟩ (.slice d m j)):=B6.setCell (p:=⟨B,0,none⟩) by7 _;obtain⟨aq,aO,aX⟩:=zh3 aI (fun g o (e:d=some ⟨g,o,none⟩)=>(show g<0∨w.heap.size≤g by have:=ab g o e;have:=B4.size;exact .inr om)) (fun g o (e:d=some ⟨g,o,none⟩)=>(show g≠w.heap.size+1+1 by have:=ab g o e;omega));clear I C az aI ab am ac aD;go_wp2_with fail;refine mok hK ?_;clear hK;obtain⟨w7,ax⟩:=zvJ (w6.setCell ⟨B,0,none⟩ (.slice d m j));rw[ax]at ag ao B7 aq⊢;clear ax
 have aU:∀v∈Value.slice d m j::f,v.oneCell'=true:=fun v hv=>by
  rcases List.mem_cons.1 hv with rfl|hv
  ·rfl
  ·exact ae v (List.mem_cons_of_mem _ hv)
 have aM:(yB S14.P0 zfF).length=(Value.slice d m j::f).length:=by rw[zbL,R];rfl
 have ah:some 16=some (Value.slice d m j::f).length:=by rw[zbL,R]
 go_wp2_with (first
  | (refine ld50 (.tmp 8) ag ?_ ah)
  | (refine st50 (.tmp 6) (.tmp 21) (Value.slice d m j::f) ao ?_ ah aM aU;intro wL EL gL sL))
 have hL:=lv50 EL ah;have BL:Below w w wL:=B7.trans (yA gL om B7.size);refine rL2 hL ?_;refine⟨{y with a1:=d,c1:=j},?_,fun A M=>aS.out _ _ _ A ((aq.out.keptRow gL aX.out).kept M aO.out),BL⟩;unfold PV;rw[aj.out]
theorem learnF_basic(N:S14.N)(L:NLay)(bit:Int)(w:World)(g:NIs N L w)(q:S14.basic N.comps)(u:S14.checkNet N=0):zjD N L w (S14.outB N) (S14.learnB N bit) bit:=fun k c f a W l x=>by
 obtain⟨p,y,d,j,o,n,s,r,i,A,z⟩:=zsO g u f;have m:=S14.ok_is r;unfold S14.learnB;rw[yS f,yS d];rcases q c (yF f)with h|h|h
 ·unfold ztN;rw[zQ h,zG om];exact(zhR N L k c _ rfl bit W (g.step l) n p y d j).mono fun e t b=>⟨y,b.1,fun v _=>o.bare14 (zoH (.inl h) i),b.2⟩
 ·unfold ztN;rw[zG om,zQ h,zQ h];exact ziR c N L k _ rfl p y c.bits.toNat bit W (zuS h i) (g.step l) f d j s N.part.toNat (yP om) om (yP m.bits.1) (by have:=m.bits;omega) (zgD h i)
 ·unfold ztN;rw[zG om,zG om,zG om,zG om,zQ h,zG om];exact(ziW N L k c _ rfl bit W (g.step l) n p y d j).mono fun e t b=>⟨y,b.1,fun v _=>o.bare14 (zoH (.inr h) i),b.2⟩
theorem new_nK(a:Option Addr)(cap:Nat)(w:World)(f:Rd w a (zfG [cK])):Calls Tryz.prog 10 #[.slice a 1 cap] w fun e b=>∃L,e = .returned (.tuple #[NV nK L,.int .i64 0])∧NIs nK L b∧Below w w b:=
 (zmF [cK] S14.freshB nK a cap w f (by decide +kernel) (zkA _ zuK) (zfT w nK by2 (by decide +kernel))).mono fun e b ⟨L,c,g,d⟩=>⟨L,c,g _ (KepX.refl _ _),d⟩
theorem new_nD(a:Option Addr)(cap:Nat)(w:World)(f:Rd w a (zfG [cD])):Calls Tryz.prog 10 #[.slice a 1 cap] w fun e b=>∃L,e = .returned (.tuple #[NV nD L,.int .i64 0])∧NIs nD L b∧Below w w b:=
 (zmF [cD] S14.freshB nD a cap w f (by decide +kernel) (zkA _ zgB) (zfT w nD by2 (by decide +kernel))).mono fun e b ⟨L,c,g,d⟩=>⟨L,c,g _ (KepX.refl _ _),d⟩
theorem new_nA(a:Option Addr)(cap:Nat)(w:World)(f:Rd w a (zfG [cK,cD,cA])):Calls Tryz.prog 10 #[.slice a 3 cap] w fun e b=>∃L,e = .returned (.tuple #[NV nA L,.int .i64 0])∧NIs nA L b∧Below w w b:=
 (zmF [cK,cD,cA] S14.freshB nA a cap w f (by decide +kernel) (zkA _ zkW) (zfT w nA by2 (by decide +kernel))).mono fun e b ⟨L,c,g,d⟩=>⟨L,c,g _ (KepX.refl _ _),d⟩
theorem pred_nK(L:NLay)(w:World)(a:NIs nK L w):Calls Tryz.prog 12 #[NV nK L] w fun e b=>e = .returned (.tuple #[.int .i64 3072,.int .i64 0])∧Below w w b:=
 (zeR nK L (S14.outB nK) w a (zeI nK L w a zuK) nK_ok (zgU nK L w a zuK nK_ok)).mono fun e b h=>⟨h.1.trans (by
   have c:=nK_pred;show Ending.returned (.tuple #[_,.int .i64 0])=_;rw[←c];rfl),h.2⟩
theorem pred_nD(L:NLay)(w:World)(a:NIs nD L w):Calls Tryz.prog 12 #[NV nD L] w fun e b=>e = .returned (.tuple #[.int .i64 2048,.int .i64 0])∧Below w w b:=
 (zeR nD L (S14.outB nD) w a (zeI nD L w a zgB) nD_ok (zgU nD L w a zgB nD_ok)).mono fun e b h=>⟨h.1.trans (by
   have c:=nD_pred;show Ending.returned (.tuple #[_,.int .i64 0])=_;rw[←c];rfl),h.2⟩
theorem pred_nD2(L:NLay)(w:World)(a:NIs nD2 L w):Calls Tryz.prog 12 #[NV nD2 L] w fun e b=>e = .returned (.tuple #[.int .i64 3414,.int .i64 0])∧Below w w b:=
 (zeR nD2 L (S14.outB nD2) w a (zeI nD2 L w a zgB) nD2_ok (zgU nD2 L w a zgB nD2_ok)).mono fun e b h=>⟨h.1.trans (by
   have c:=nD2_pred;show Ending.returned (.tuple #[_,.int .i64 0])=_;rw[←c];rfl),h.2⟩
theorem pred_nA(L:NLay)(w:World)(a:NIs nA L w):Calls Tryz.prog 12 #[NV nA L] w fun e b=>e = .returned (.tuple #[.int .i64 2589,.int .i64 0])∧Below w w b:=
 (zeR nA L (S14.outB nA) w a (zeI nA L w a zkW) nA_ok (zgU nA L w a zkW nA_ok)).mono fun e b h=>⟨h.1.trans (by
   have c:=nA_pred;show Ending.returned (.tuple #[_,.int .i64 0])=_;rw[←c];rfl),h.2⟩
theorem outs_nA(L:NLay)(w:World)(b:NIs nA L w):Calls Tryz.prog 13 #[NV nA L] w fun e c=>∃a d,e = .returned (.tuple #[.slice a 3 d,.int .i64 0])∧Rd c a (zaE [427,0,214])∧Below w w c:=
 (zeB nA L (S14.outB nA) w b (zeI nA L w b zkW) nA_ok (zgU nA L w b zkW nA_ok)).mono fun e c ⟨a,d,g,i,_,_,h⟩=>⟨a,d,g,by
   have f:=nA_outs;rw[←f];exact i,h⟩
theorem learn_nD(L:NLay)(w:World)(a:NIs nD L w):Calls Tryz.prog 6 #[NV nD L,.int .i64 1] w fun e b=>∃c,e = .returned (.tuple #[NV nD2 c,.int .i64 0])∧NIs nD2 c b∧Below w w b:=
 (zlA nD nD2 L (S14.outB nD) (S14.learnB nD 1) 1 w a (zeI nD L w a zgB) nD_ok (zgU nD L w a zgB nD_ok) (.inr rfl) (learnF_basic nD L 1 w a zgB nD_ok)
   (fun h=>by rw[nD_next]at h;unfold S14.opens at h;omega) (fun _=>by rfl)).mono fun e b ⟨c,d,g,f⟩=>⟨c,d,g b (KepX.refl _ _),f⟩
def NetCs(cs:List Value):Prop:=cs.length=4∧∀j,j<3→∀k x,cs[j]? ≠some (.int k x)
theorem Rd.keepNet{w w':World}{a:Option Addr}{vals l:List Value}{t:TypeId}{q:Nat}(h:Rd w a vals)(j:Blk w q l t)(c:NetCs l)(v:w.grownBy w' (some q))(z:vals = []∨4<vals.length∨∃k x,1<vals.length∧vals[0]? = some (.int k x)):Rd w' a vals:=by
 by_cases f:vals = []
 ·rw[f];exact Rd.nil _ _
 ·refine Rd.keptRow h v (fun g o e=> ?_);rintro rfl;obtain⟨b,A,m,i⟩:=h f;rw[e]at m;cases m;rcases z with d|s|⟨k,x,u,d⟩
  ·exact f d
  ·have n:=i 4 _ (zD s);rw[j.cell,yY (by rw[c.1];omega)]at n;cases n
  ·have r:=i 0 _ d;have p:=i 1 _ (zD u);rw[j.cell]at r p;have y:=(List.getElem?_eq_some_iff.1 p).1;rw[c.1]at y;exact c.2 (o+0) om k x r
theorem Cts_shape(l:List (Int×Int)):Cts l = []∨4<(Cts l).length∨∃k x,1<(Cts l).length∧(Cts l)[0]? = some (.int k x):=by
 cases l with
 | nil=>exact .inl rfl
 | cons c r=>exact .inr (.inr ⟨.i64,c.1,by rw[yT];simp;omega,rfl⟩)
theorem PIs.ctrs{p:S14.P}{y:Lay}{w w':World}(e:p = {S14.P0 with ctrs:=p.ctrs})(h:PIs p y w)(c:Rd w' y.a1 (Cts p.ctrs)):PIs p y w':=by
 obtain⟨x,l⟩:=zvJ p.ctrs;rw[l]at e c;subst e;obtain⟨A,d,b,⟨R,a,n,s,i,k,f,v,z⟩,⟨o,j,t,g,q,u⟩⟩:=h;have m:R = []:=List.map_eq_nil_iff.1 s.symm;subst m;exact⟨c,⟨d.ok,d.cap,Rd.nil _ _⟩,⟨Rd.nil _ _,Rd.nil _ _,Rd.nil _ _,b.byt,b.cb,b.lh,b.lb,b.lc⟩,⟨[],a,n,rfl,i,k,f,Rd.nil _ _,fun r c=>by cases c⟩,⟨o,j,t,g,q,Rd.nil _ _⟩⟩
def S14.slim(N:S14.N):Prop:=1≤N.comps.length∧1≤N.parts.length∧N.ctxs.length=16∧∀p∈N.parts,p = {S14.P0 with ctrs:=p.ctrs}
theorem NIs.keepNet{N:S14.N}{L:NLay}{w w':World}{f:List Value}{t:TypeId}{g:Nat}(h:NIs N L w)(d:S14.slim N)(b:Blk w g f t)(c:NetCs f)(a:w.grownBy w' (some g)):NIs N L w':=
 ⟨h.rc.keepNet b c a (.inr (.inl (by rw[zaB];have:=d.1;omega))),h.rp.keepNet b c a (.inr (.inl (by rw[zcM _ _ h.ly];have:=d.2.1;omega))),h.rx.keepNet b c a (.inr (.inl (by rw[zbT,d.2.2.1];decide))),h.ly,
   fun i p y e j=>(h.ps i p y e j).ctrs (d.2.2.2 p (yF e)) ((h.ps i p y e j).rc.keepNet b c a (Cts_shape _)),h.xs,h.l1,h.l2,h.l3⟩
def NetIs(N:S14.N)(VS:List Value)(w:World):Prop:=∃L,VS=zaN N L∧NIs N L w
theorem NetIs.step{N:S14.N}{a:List Value}{w w':World}(h:NetIs N a w)(b:Below w w w'):NetIs N a w':=h.imp fun _ e=>⟨e.1,e.2.step b⟩
theorem NetIs.keep{N:S14.N}{a:List Value}{w w':World}{b:List Value}{t:TypeId}{c:Nat}(h:NetIs N a w)(i:S14.slim N)(f:Blk w c b t)(g:NetCs b)(d:w.grownBy w' (some c)):NetIs N a w':=h.imp fun _ e=>⟨e.1,e.2.keepNet i f g d⟩
theorem NetIs.len{N:S14.N}{a:List Value}{w:World}(h:NetIs N a w):a.length=4:=by obtain⟨L,rfl,_⟩:=h;rfl
theorem NetIs.one{N:S14.N}{b:List Value}{w:World}(h:NetIs N b w):∀v∈b,v.oneCell'=true:=by
 obtain⟨L,rfl,_⟩:=h;intro v a;simp only[zaN,List.mem_cons,zbU,or_false]at a;rcases a with rfl|rfl|rfl|rfl<;>rfl
theorem NetIs.cs{N:S14.N}{a:List Value}{w:World}(h:NetIs N a w):NetCs a:=by
 obtain⟨L,rfl,_⟩:=h;refine⟨rfl,fun j b k x e=> ?_⟩
 match j,b with
 | 0,_=>cases e
 | 1,_=>cases e
 | 2,_=>cases e
theorem zmH:NetCs [.slice none 0 0,.slice none 0 0,.slice none 0 0,.int .i64 0]:=by
 refine⟨rfl,fun j a k x e=> ?_⟩
 match j,a with
 | 0,_=>cases e
 | 1,_=>cases e
 | 2,_=>cases e
theorem slimP{p q:S14.P}(h:p=q)(a:q = {S14.P0 with ctrs:=q.ctrs}):p = {S14.P0 with ctrs:=p.ctrs}:=h▸a
theorem slim_nK:S14.slim nK:=⟨by decide,by decide,rfl,fun p a=>by
 have a:p∈([S14.P0]:List S14.P):=a;simp only[List.mem_cons,zbU,or_false]at a;exact slimP a rfl⟩
theorem slim_nD:S14.slim nD:=⟨by decide,by decide,rfl,fun p a=>by
 have a:p∈([S14.fresh1 1]:List S14.P):=a;simp only[List.mem_cons,zbU,or_false]at a;exact slimP a rfl⟩
theorem slim_nD2:S14.slim nD2:=⟨by decide,by decide,rfl,fun p a=>by
 have a:p∈([pD2]:List S14.P):=a;simp only[List.mem_cons,zbU,or_false]at a;exact slimP a rfl⟩
theorem slim_nA:S14.slim nA:=⟨by decide,by decide,rfl,fun p a=>by
 have a:p∈([S14.P0,S14.fresh1 1,S14.P0]:List S14.P):=a;simp only[List.mem_cons,zbU,or_false]at a;exact a.elim (slimP · rfl) (fun h=>h.elim (slimP · rfl) (slimP · rfl))⟩
theorem newS_nK(a:Option Addr)(cap:Nat)(w:World)(g:Rd w a (zfG [cK])):Calls Tryz.prog 10 #[.slice a 1 cap] w fun e b=>∃c,e = .returned (.tuple #[.agg c.toArray,.int .i64 0])∧NetIs nK c b∧Below w w b:=
 (new_nK a cap w g).mono fun e b ⟨L,d,h,f⟩=>⟨_,d,⟨L,rfl,h⟩,f⟩
theorem newS_nD(a:Option Addr)(cap:Nat)(w:World)(g:Rd w a (zfG [cD])):Calls Tryz.prog 10 #[.slice a 1 cap] w fun e b=>∃c,e = .returned (.tuple #[.agg c.toArray,.int .i64 0])∧NetIs nD c b∧Below w w b:=
 (new_nD a cap w g).mono fun e b ⟨L,d,h,f⟩=>⟨_,d,⟨L,rfl,h⟩,f⟩
theorem newS_nA(a:Option Addr)(cap:Nat)(w:World)(g:Rd w a (zfG [cK,cD,cA])):Calls Tryz.prog 10 #[.slice a 3 cap] w fun e b=>∃c,e = .returned (.tuple #[.agg c.toArray,.int .i64 0])∧NetIs nA c b∧Below w w b:=
 (new_nA a cap w g).mono fun e b ⟨L,d,h,f⟩=>⟨_,d,⟨L,rfl,h⟩,f⟩
theorem predS_nK(a:List Value)(w:World)(h:NetIs nK a w):Calls Tryz.prog 12 #[.agg a.toArray] w fun e c=>e = .returned (.tuple #[.int .i64 3072,.int .i64 0])∧Below w w c:=by
 obtain⟨L,rfl,b⟩:=h;exact pred_nK L w b
theorem predS_nD(a:List Value)(w:World)(h:NetIs nD a w):Calls Tryz.prog 12 #[.agg a.toArray] w fun e c=>e = .returned (.tuple #[.int .i64 2048,.int .i64 0])∧Below w w c:=by
 obtain⟨L,rfl,b⟩:=h;exact pred_nD L w b
theorem predS_nD2(a:List Value)(w:World)(h:NetIs nD2 a w):Calls Tryz.prog 12 #[.agg a.toArray] w fun e c=>e = .returned (.tuple #[.int .i64 3414,.int .i64 0])∧Below w w c:=by
 obtain⟨L,rfl,b⟩:=h;exact pred_nD2 L w b
theorem predS_nA(a:List Value)(w:World)(h:NetIs nA a w):Calls Tryz.prog 12 #[.agg a.toArray] w fun e c=>e = .returned (.tuple #[.int .i64 2589,.int .i64 0])∧Below w w c:=by
 obtain⟨L,rfl,b⟩:=h;exact pred_nA L w b
theorem outsS_nA(c:List Value)(w:World)(h:NetIs nA c w):Calls Tryz.prog 13 #[.agg c.toArray] w fun e b=>∃a f,e = .returned (.tuple #[.slice a 3 f,.int .i64 0])∧Rd b a (zaE [427,0,214])∧Below w w b:=by
 obtain⟨L,rfl,d⟩:=h;exact outs_nA L w d
theorem learnS_nD(c:List Value)(w:World)(h:NetIs nD c w):Calls Tryz.prog 6 #[.agg c.toArray,.int .i64 1] w fun e a=>∃b,e = .returned (.tuple #[.agg b.toArray,.int .i64 0])∧NetIs nD2 b a∧Below w w a:=by
 obtain⟨L,rfl,f⟩:=h;exact(learn_nD L w f).mono fun e a ⟨i,d,j,g⟩=>⟨_,d,⟨i,rfl,j⟩,g⟩
theorem info_C14:(Tryz.prog.info? 56).map (·.size)=some 6:=by kernel_rfl
theorem rd_one14(w:World):Rd (w.alloc (.cells #[.int .i64 1,.int .i64 0,.int .i64 255,.int .i64 0,.int .i64 0,.int .i64 0] 56)) (some ⟨w,0,none⟩) (zfG [cD]):=Rd.new w [.int .i64 1,.int .i64 0,.int .i64 255,.int .i64 0,.int .i64 0,.int .i64 0] _
theorem rd_outs14(w:World):Rd (w.alloc (.cells #[.int .i64 427,.int .i64 0,.int .i64 214] 3)) (some ⟨w,0,none⟩) (zaE [427,0,214]):=Rd.new w [.int .i64 427,.int .i64 0,.int .i64 214] _
theorem equal3_14(b a:Option Addr)(d c:Nat)(w:World)(f:Rd w b (zaE [427,0,214]))(g:Rd w a (zaE [427,0,214])) :
 Calls Tryz.prog 14 #[.slice b 3 d,.slice a 3 c] w fun e h=>e = .returned (.bool true)∧Below w w h:=equalInts_eq [427,0,214] b a d c w by2 f g
theorem zpI{Y:Array Value→Nat→Option Bool}{Q:Exit→Act→World→Prop}{S:World→Prop}{G:Act→World→Prop}{w:World}{j:Plan Oper}{o:Oper}{a:Act}(s x:Operand)(r:o.op = .call {callee:=.builtin .append,args:=#[s,x],argTypes:=#[22,22]})(q:Region.wanted o (Y a.tmps)=true)
 (c g k:Nat) (y:a.eval s = .slice (some ⟨g,0,none⟩) 1 1) (i:w.ownsRow c 56 6 (.slice (some ⟨g,0,none⟩) 1 1) 1 (zfG [cK])) (z:c≤w.heap.size) (l:a.eval x = .slice (some ⟨k,0,none⟩) 2 2) (v:Rd w (some ⟨k,0,none⟩) (zfG [cD,cA]))
 (h:∀d f b,Rd b d (zfG [cK,cD,cA])→w.grownBy b (some g)→c≤g→S b∧zaI Tryz.prog Y Q S G j (a.put o.dst (.slice d 3 f)) b):zaI Tryz.prog Y Q S G (.one o j) a w:=by
 obtain⟨d,f,b,n,m,t⟩:=zeZ (P:=Tryz.prog) (w:=w) s x _ _ 6 48 _ c zkC r _ 1 (zfG [cK]) y i _ 2 2 (zfG [cD,cA]) l rfl v (zpC _) by2 by2 z;obtain⟨B,e,p,_⟩:=zcH i (zF _);cases e;obtain⟨u,A⟩:=h d f b (Rd.of_owns m) t p;exact zfZ q n u A
theorem share14{F:Act→World→Prop}{G:Prop}(R:List Value→Nat→World→Prop){A:Nat→Nat→Option Addr→Nat→List Value→Nat→Act}(main:(∀q x a c V b w,R V b w→F (A q x a c V b) w)→G)(d:∀q x a c V b w,R V b w→F (A q x a c V b) w):G:=main d
theorem awake14_any(w:World):Calls Tryz.prog 5 #[] w fun e w'=>e = .returned (.bool true)∧Below w w w':=by
 go_enter Tryz.func5,Tryz.ntmps5;go_wp2_with fail;refine(zlB _).mono ?_;rintro e w1 ⟨q1,rfl,aq,p⟩;have B1:Below w w w1:=zA zo p;have au:=Rd.of_owns aq;clear aq p;go_wp2_with fail;refine(newS_nK _ _ _ au).mono ?_;rintro e M ⟨V1,rfl,h,u⟩;have B2:=zA B1 u;clear au B1 u;obtain⟨b1,D⟩:=zvJ M.heap.size;obtain⟨a1,Q,_,Z⟩:=al1 M [.slice none 0 0,.slice none 0 0,.slice none 0 0,.int .i64 0] 26;have F1:Blk a1 b1 [.slice none 0 0,.slice none 0 0,.slice none 0 0,.int .i64 0] 26:=by rw[←Q,←D];exact Blk.new M _ _
 have ao:w.heap.size≤b1:=by rw[←D];exact B2.size
 have ab:=zA B2 Z;have h:=h.step Z;obtain⟨J,af⟩:=zh2 h.len h.one;go_wp2_with (first
  | (rw[Q,D])
  | (rw[Q])
  | (refine st26 (.tmp 1) (.tmp 22) V1 F1 ?_ (yG some J.out.symm) J.out.symm af.out;intro s1 z g1 z1;clear z1)
  | (refine ld26 (.tmp 1) z ?_ (yG some J.out.symm)))
 have aw:=ab.trans (yA g1 ao ab.size);have h:=h.keep slim_nK F1 zmH g1;refine mnb aw (predS_nK V1 _ h) fun w4 aE B4=> ?_;clear z F1 h Q D ao B2 ab J af aw g1 Z aE;obtain⟨f,L⟩:=zvJ w4.heap.size;obtain⟨a5,P,_,ah⟩:=al1 w4 [.int .i64 0,.int .i64 0,.int .i64 0,.int .i64 0,.int .i64 0,.int .i64 0] 56;have d:Blk a5 f [.int .i64 0,.int .i64 0,.int .i64 0,.int .i64 0,.int .i64 0,.int .i64 0] 56:=by rw[←P,←L];exact Blk.new w4 _ _
 have aC:w.heap.size≤f:=by rw[←L];exact B4.size
 have X:=zA B4 ah;go_wp2_with (first
  | (rw[P,L])
  | (rw[P])
  | (refine st56 (.tmp 5) (.tmp 29) [.int .i64 1,.int .i64 0,.int .i64 255,.int .i64 0,.int .i64 0,.int .i64 0] d ?_;intro s5 E5 g5 z5;clear z5;have ac:=X.trans (yA g5 aC X.size))
  | (refine ld56 (.tmp 5) E5 ?_))
 refine(newS_nD _ _ _ (rd_one14 s5)).mono ?_;rintro e w7 ⟨V6,rfl,g,a⟩;have W:=zA (ac.alloc ac.size _) a;have d:=(E5.alloc (.cells #[.int .i64 1,.int .i64 0,.int .i64 255,.int .i64 0,.int .i64 0,.int .i64 0] 56)).step a;have az:=d.lt;clear P L ah X g5 ac a E5 B4;obtain⟨b6,y⟩:=zvJ w7.heap.size;obtain⟨a6,U,_,O⟩:=al1 w7 [.slice none 0 0,.slice none 0 0,.slice none 0 0,.int .i64 0] 26;have F6:Blk a6 b6 [.slice none 0 0,.slice none 0 0,.slice none 0 0,.int .i64 0] 26:=by rw[←U,←y];exact Blk.new w7 _ _
 have ax:w.heap.size≤b6:=by rw[←y];exact W.size
 have ad:=zA W O;have g:=g.step O;obtain⟨t,am⟩:=zh2 g.len g.one;have aG:f<b6:=by rw[←y];exact az
 have d:=d.step O;go_wp2_with (first
  | (rw[U,y])
  | (rw[U])
  | (refine st26 (.tmp 6) (.tmp 34) V6 F6 ?_ (yG some t.out.symm) t.out.symm am.out;intro s6 E6 T z6;clear z6)
  | (refine ld26 (.tmp 6) E6 ?_ (yG some t.out.symm)))
 have ap:=ad.trans (yA T ax ad.size);have g:=g.keep slim_nD F6 zmH T;have d:=d.keptRow T (by intro e;have:=zI e;omega);refine mnb ap (predS_nD V6 _ g) fun w8 H B8=> ?_;have g:=g.step H;have r:=E6.step H;have d:=d.step H;clear E6 F6 U y W ad ap T O H;have ay:=g;go_wp2_with (first
  | (refine ld26 (.tmp 6) r ?_ (yG some t.out.symm)))
 refine(learnS_nD V6 _ g).mono ?_;rintro e w9 ⟨V7,rfl,q,R⟩;have B9:=zA B8 R;have r:=r.step R;have d:=d.step R;have ak:=g.cs;obtain⟨E,ai⟩:=zh2 q.len q.one;clear g ay R B8 am;go_wp2_with (first
  | (refine st26 (.tmp 6) (.tmp 44) V7 r ?_ (yG some E.out.symm) (t.out.trans E.out.symm) ai.out;intro s7 E7 I z7;clear z7)
  | (refine ld26 (.tmp 6) E7 ?_ (yG some E.out.symm)))
 have ar:=B9.trans (yA I ax B9.size);have q:=q.keep slim_nD2 r ak I;have d:=d.keptRow I (by intro e;have:=zI e;omega);refine mnb ar (predS_nD2 V7 _ q) fun k aj aA=> ?_;have d:=d.step aj;clear E7 r q ak I aj ar B9 t E ai;go_wp2_with fail;have m:Cells k [(⟨f,0,none⟩,.int .i64 1),(⟨f,1,none⟩,.int .i64 0),(⟨f,2,none⟩,.int .i64 255),(⟨f,3,none⟩,.int .i64 0),(⟨f,4,none⟩,.int .i64 0),(⟨f,5,none⟩,.int .i64 0)]:=⟨d.cell 0,d.cell 1,d.cell 2,d.cell 3,d.cell 4,d.cell 5,zT⟩;clear d;refine zaO 11 1 (.read 1 (.read 2 (.two (.one 0 (.two (.one 3 (.two (.one 4 (.two (.one 5 (.read 6 (.read 7 (.read 8 (.one 9 (.one 10 .done)))))) (.one 9 (.one 5 (.read 6 (.read 7 (.read 8 (.one 10 .done)))))))) (.one 9 (.one 4 (.one 5 (.read 6 (.read 7 (.read 8 (.one 10 .done))))))))) (.one 9 (.one 3 (.one 4 (.one 5 (.read 6 (.read 7 (.read 8 (.one 10 .done)))))))))) (.two (.one 3 (.two (.one 0 (.two (.one 4 (.two (.one 5 (.read 6 (.read 7 (.read 8 (.one 9 (.one 10 .done)))))) (.one 9 (.one 5 (.read 6 (.read 7 (.read 8 (.one 10 .done)))))))) (.one 9 (.one 4 (.one 5 (.read 6 (.read 7 (.read 8 (.one 10 .done))))))))) (.one 9 (.one 0 (.one 4 (.one 5 (.read 6 (.read 7 (.read 8 (.one 10 .done)))))))))) (.one 9 (.two (.one 0 (.one 3 (.one 4 (.one 5 (.read 6 (.read 7 (.read 8 (.one 10 .done)))))))) (.one 3 (.one 0 (.one 4 (.one 5 (.read 6 (.read 7 (.read 8 (.one 10 .done)))))))))))))) _ _ o0P (fun K=>Below k k K∧Cells K [(⟨f,0,none⟩,.int .i64 1),(⟨f,1,none⟩,.int .i64 0),(⟨f,2,none⟩,.int .i64 255),(⟨f,3,none⟩,.int .i64 0),(⟨f,4,none⟩,.int .i64 0),(⟨f,5,none⟩,.int .i64 0)]) zk (zU 11 _).symm zk zk zk zk (⟨(zJ _ _).drew,m⟩) (fun Y Q4 F4 hY hF=> ?_);simp only[Plan.map,ltc,ltz,ldc,ldz,zdG,zeF];repeat refine mpR ?_
 have a:Below k k k.drew:=(zJ _ _).drew;obtain⟨v,hv⟩:=zvJ k.drew;rw[hv]at a⊢;clear hv;apply share14 (F:=F4) (fun V b n=>Below w w n∧Blk n b V 26∧NetIs nA V n)
 case main=>
  intro aD
  repeat' first
   | refine zbV ?_ ?_
   | (apply zcR (by rw[hY];rfl)
      ·intro M aF;(try simp only[Keeps,Cells]at aF);go_simp;with_reducible rfl
      simp only[zvF])
   | (refine zfN (fun b=>.slice (some ⟨b,0,none⟩) 2 2) [.int .i64 1,.int .i64 0,.int .i64 255,.int .i64 0,.int .i64 0,.int .i64 0,.int .i64 4,.int .i64 0,.int .i64 128,.int .i64 0,.int .i64 0,.int .i64 1] 56 (by rw[hY];rfl) (by go_simp;first|done|fail) ?_;intro N x aB l c;have l:Rd x (some ⟨N,0,none⟩) (zfG [cD,cA]):=fun _=>⟨_,0,rfl,l.cells⟩;have a:=zA a c;(try have o:=yM (B:=0) o c);(try have s:=yD s c.size);(try have i:=i.step c);clear c aB;refine⟨⟨a,Cells.step a m⟩,?_⟩;simp only[zvF])
   | (refine zfN (fun b=>.pointer (some ⟨b,0,none⟩)) [.slice none 0 0,.slice none 0 0,.slice none 0 0,.int .i64 0] 26 (by rw[hY];rfl) (by go_simp;first|done|fail) ?_;intro ae x an i c;have zN:k.heap.size≤ae:=by rw[←an];exact a.size
      have a:=zA a c;(try have o:=yM (B:=0) o c);(try have s:=yD s c.size);(try have l:=l.step c);(try have G:=G.step c);(try have j:=j.step c);clear c an;refine⟨⟨a,Cells.step a m⟩,?_⟩;simp only[zvF])
   | (apply zbR (by rw[hY];rfl)
      ·go_simp;with_reducible exact⟨rfl,rfl⟩
      refine Calls.mono (zlB _) ?_;rintro e x ⟨q8,rfl,o,c⟩;have ag:=a.size;have s:=c.size;have a:=zA a c;(try have l:=l.step c);(try have i:=i.step c);clear c;refine⟨_,rfl,⟨a,Cells.step a m⟩,?_⟩;simp only[zvF])
   | (refine zpI (.tmp 52) (.tmp 55) by3 (by rw[hY];rfl) _ q8 N by3 o s by3 l ?_;intro a' av x G gr hg;have a:=a.trans (yA gr (yD ag hg) a.size);(try have i:=i.keptRow gr (fun e=>zfS o i by2 e.symm));clear o l gr hg ag s;refine⟨⟨a,Cells.step a m⟩,?_⟩;simp only[zvF])
   | (apply zbR (by rw[hY];rfl)
      ·go_simp;with_reducible exact⟨rfl,rfl⟩
      refine Calls.mono (newS_nA _ _ _ G) ?_;rintro e x ⟨C,rfl,j,c⟩;have a:=zA a c;(try have i:=i.step c);clear G c;refine⟨_,rfl,⟨a,Cells.step a m⟩,?_⟩;simp only[zvF])
   | (refine ps26 (.tmp 13) (.tmp 58) C i ?_ (yG some j.len.symm) j.len.symm j.one;intro n A gS sS;have aa:Below k k n:=a.trans (yA gS zN a.size);refine⟨⟨aa,Cells.step aa m⟩,?_⟩;simp only[zvF];exact zaT (aD q8 N a' av C ae n ⟨zA aA aa,A,j.keep slim_nA i zmH gS⟩))
 intro q8 N a' av C ae n hR;obtain⟨BS,A,j⟩:=hR;refine hF.out _ _ (fun K hK=> ?_);clear hF hY m a;have HK:=zC hK;clear hK;go_wp2_with fail;refine OnlyK.mk (HK.out _ _ ?_);have Vl:=zC j.len;go_wp2_with (first
  | (refine ld26 (.tmp 13) A ?_ (yG some Vl.out.symm)))
 refine(outsS_nA C _ j).mono ?_;rintro e u1 ⟨aO,cO,rfl,S,p⟩;have BU:=zA BS p;have z:=A.step p;have h:=j.step p;clear A j BS p;go_wp2_with (first
  | (refine ld26 (.tmp 13) z ?_ (yG some Vl.out.symm)))
 refine mnb BU (predS_nA C _ h) fun u2 u BV=> ?_;have S:=S.step u;clear z h BU u Vl;go_wp2_with fail;refine(equal3_14 _ _ _ _ _ (S.step ((zJ _ _).alloc (zF _) _)) (rd_outs14 u2)).mono ?_;rintro e u3 ⟨rfl,al⟩;have BW:=zA (BV.alloc BV.size _) al;clear S BV al;go_wp2_with fail;exact mf2 BW
