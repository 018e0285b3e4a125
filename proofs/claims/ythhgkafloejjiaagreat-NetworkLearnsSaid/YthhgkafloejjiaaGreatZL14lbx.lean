/- A part of the proof of L14l. No condition. -/
import Derived.Test.YthhgkafloejjiaaGreatZL14lbt
import Derived.Test.YthhgkafloejjiaaGreatZL14lbu
set_option linter.all false
set_option maxRecDepth 100000
set_option maxHeartbeats 2000000
namespace Go.Proofs.YthhgkafloejjiaaGreat
open Go.RowKit
theorem rcopy14_any(N:S14.N)(L:NLay)(w:World)(a:NIs N L w)(h1:1≤N.comps.length∧N.comps.length≤16)(h2:N.parts.length=N.comps.length)(h3:N.ctxs.length=16) :
 Calls Tryz.prog 21 #[NV N L] w fun e u=>∃T f a2 d a3 c,e = .returned (NV N ⟨T,f,a2,d,a3,c,L.ys⟩)∧u.ownsRow w.heap.size 56 6 (.slice T N.comps.length f) N.comps.length (zfG N.comps)∧
  OwnP u w.heap.size a2 d N.parts L.ys∧u.ownsRow w.heap.size 85 1 (.slice a3 N.ctxs.length c) N.ctxs.length (zlZ N.ctxs)∧Below w w u:=by
 obtain⟨s,A,ah,_⟩:=a.rc (fun e=>by have h:=yG List.length e;rw[zaB,List.length_nil]at h;omega);obtain⟨v,D,al,_⟩:=a.rp (fun e=>by have h:=yG List.length e;rw[zcM _ _ a.ly,List.length_nil]at h;omega);obtain⟨J,z,aj,_⟩:=a.rx (fun e=>by have h:=yG List.length e;rw[zbT,List.length_nil]at h;omega);have G:=a.rc;have F:=a.rp;have x:=a.rx;have q:(zfG N.comps).length=N.comps.length*6:=by rw[zaB,Nat.mul_comm]
 have i:(PCs N.parts L.ys).length=N.comps.length*16:=by rw[zcM _ _ a.ly,h2,Nat.mul_comm]
 have y:(zlZ N.ctxs).length=16*1:=by rw[zbT,h3]
 have q1:=zpC N.comps;have M:=PCs_one N.parts L.ys;have q3:=U32s_one N.ctxs;obtain⟨T,f,a2,d,a3,c,ys⟩:=L;simp only at ah al aj G F x i M;subst ah al aj;unfold OwnP NV zaN;obtain⟨V1,V2,V3,n,Z,R,aa,hn⟩:=zz4 (zfG N.comps) (PCs N.parts ys) (zlZ N.ctxs) N.comps.length;obtain⟨H,ai⟩:=zvJ N.part;rw[Z]at q q1 G;rw[R]at i M F;rw[aa]at y q3 x;rw[hn]at q i h1;simp only[h2,h3,Z,R,aa,hn,ai];have n1:V1≠ []:=fun e=>by rw[e,List.length_nil]at q;omega
 have n2:V2≠ []:=fun e=>by rw[e,List.length_nil]at i;omega
 have n3:V3≠ []:=fun e=>by rw[e,List.length_nil]at y;omega
 obtain⟨aq,au,an,HL⟩:=zh4 G F x (zZ q (zZ i y));obtain⟨O,V⟩:=zh2 (zZ q1 (zZ M q3)) (zZ n1 (zZ n2 n3));clear a h2 h3 G F x q i y q1 M q3 n1 n2 n3 Z R aa hn ai;obtain⟨W1,ao,p,Q,o⟩:=al2 w [.slice (some ⟨s,A,none⟩) n f,.slice (some ⟨v,D,none⟩) n d,.slice (some ⟨J,z,none⟩) 16 c,H] [.slice none 0 0,.slice none 0 0,.slice none 0 0,.int .i64 0] 26 26;have P:Cells W1 [(⟨w,0,none⟩,.slice (some ⟨s,A,none⟩) n f),(⟨w,1,none⟩,.slice (some ⟨v,D,none⟩) n d),(⟨w,2,none⟩,.slice (some ⟨J,z,none⟩) 16 c),(⟨w,3,none⟩,H)]:=⟨p.cell 0,p.cell 1,p.cell 2,p.cell 3,zT⟩;clear p;go_enter Tryz.func21,Tryz.ntmps21;go_wp2_with (rw[ao]);refine zvL 15 1 [(U,0,3),(U,4,3),(U,8,3),(U,12,2),(zvE,3,1),(zvE,7,1),(zvE,11,1),(U,14,1)] (Keeps W1 [(⟨w,0,none⟩,.slice (some ⟨s,A,none⟩) n f),(⟨w,1,none⟩,.slice (some ⟨v,D,none⟩) n d),(⟨w,2,none⟩,.slice (some ⟨J,z,none⟩) 16 c),(⟨w,3,none⟩,H)]) (Keeps.start P) fun Y Q4 F4 hY hF=> ?_;repeat refine mrd ?_
 have m:=Keeps.start P;obtain⟨w2,ar⟩:=zvJ W1.drew;rw[ar]at m⊢;refine zcY (.tmp 6) (.tmp 8) 22 56 6 48 _ w2.heap.size zkC (.slice none 0 0) 0 [] ⟨s,A,none⟩ n f V1 (by rw[hY];rfl) rfl rfl rfl HL.out.1 V.out.1 O.out.1 by5 om (World.ownsRow_nil _ _ _ _) (aq.out.step (zA o m.1)) (zF _) ?_;intro a4 c4 t W ac _;rw[yE,List.nil_append]at W;rw[yE];have ak:Below w2 w2 t:=Below.grown (zJ _ _) ac (zF _) (fun r e=>by cases e);have l:=m.step ak;refine⟨l,?_⟩;simp only[zvF];repeat refine mrd ?_
 refine zcY (.tmp 10) (.tmp 12) 23 50 16 240 _ t.heap.size zkB (.slice none 0 0) 0 [] ⟨v,D,none⟩ n d V2 (by rw[hY];rfl) rfl rfl rfl HL.out.2.1 V.out.2.1 O.out.2.1 by5 om (World.ownsRow_nil _ _ _ _) (au.out.step (zA o l.1)) (zF _) ?_;intro a5 c5 C ab ad _;rw[yE,List.nil_append]at ab;rw[yE];have X:Below t t C:=Below.grown (zJ _ _) ad (zF _) (fun r e=>by cases e);have j:=l.step X;refine⟨j,?_⟩;simp only[zvF];repeat refine mrd ?_
 refine zcY (.tmp 14) (.tmp 16) 24 85 1 4 _ C.heap.size elems_u32 (.slice none 0 0) 0 [] ⟨J,z,none⟩ 16 c V3 (by rw[hY];rfl) rfl rfl rfl HL.out.2.2 V.out.2.2 O.out.2.2 by5 om (World.ownsRow_nil _ _ _ _) (an.out.step (zA o j.1)) (zF _) ?_;intro a6 c6 w5 S ae _;rw[yE,List.nil_append]at S;rw[yE];have E:Below C C w5:=Below.grown (zJ _ _) ae (zF _) (fun r e=>by cases e);have I:=j.step E;refine⟨I,?_⟩;simp only[zvF];repeat refine mrd ?_
 obtain⟨af,am,ag⟩:=zh3 (yM (B:=0) ab E) (yM (B:=0) W (zA X E)) S;have ap:=Q.step I.1;have B5:=zA o I.1;have z2:=o.size;have z3:=m.1.size;have z4:=l.1.size;have z5:=j.1.size;have av:=Q.lt;refine mdn hF fun K hK=> ?_;clear hF hY W ab S ac ad ae m l j I ak X E P Q;simp only[ldc,ldz];refine st26 (.tmp 2) (.tmp 20) [.slice a4 n c4,.slice a5 n c5,.slice a6 16 c6,H] ap ?_;intro wL EL gL sL;go_wp2_with fail;refine mok hK ?_;go_wp2_with fail;have hL:=lv26 EL;refine rL1 hL ?_;have hk:KepX (fun k=>k=w.heap.size+1) w5 wL:=KepX.row gL (fun b e=>.inl (zI e).symm);refine⟨a4,c4,a5,c5,a6,c6,rfl,zeS (zbY am.out hk (fun g e=> ?_)) ?_,zeS (zbY af.out hk (fun g e=> ?_)) ?_,zeS (zbY ag.out hk (fun g e=> ?_)) ?_,B5.trans (yA gL om B5.size)⟩
 ·have:=(am.out.lt g e).1;show¬g=_;omega
 ·omega
 ·have:=(af.out.lt g e).1;show¬g=_;omega
 ·omega
 ·have:=(ag.out.lt g e).1;show¬g=_;omega
 ·omega
theorem zcZ{P:Program}{w:World}{f:Array Oper}{g:List Oper}{o:Oper}{a:Act}{Q:Exit→Act→World→Prop}(T:TypeId)(x:Operand)(l:Region.wanted o (yielded f a.tmps)=true)(j:o.op = .load T x)
 (b e:Nat) (p:a.eval x = .pointer (some ⟨b,e,none⟩)) (c:List Value) (n:w.rangeAt b e c) (d:TypeDesc) (k:P.underlying T=some d) (i:d.isRow=true) (m:(P.info? T).map (·.size)=some c.length)
 (h:wpList P f Q g (a.put o.dst (.agg c.toArray)) w):wpList P f Q (o::g) a w:=by
 simp only[wpList,l,if_true];exact .inl (wp_load_mid T x j b e p c d n k i m h)
theorem ztB:(Tryz.prog.info? 40).map (·.size)=some 2:=by kernel_rfl
theorem info_X14e:(Tryz.prog.info? 46).map (·.size)=some 2:=by kernel_rfl
theorem rsameComps14(l:List S14.C)(a b:Option Addr)(P cb:Nat)(w:World)(X:l.length≤100000)(V:Rd w a (zfG l))(R:Rd w b (zfG l)) :
 Calls Tryz.prog 25 #[.slice a l.length P,.slice b l.length cb] w fun e T=>e = .returned (.bool true)∧Below w w T:=by
 obtain⟨n,q⟩:=zvJ l.length;have O:=zC fun k (Z:k<n)=>(⟨_,zD om⟩:∃x,l[k]? = some x);have W:=zC (fun(e:zfG l = [])=>show n=0 by have:=yG List.length e;rw[zaB,List.length_nil]at this;omega);rw[q]at X⊢;clear q;go_enter Tryz.func25,Tryz.ntmps25;go_wp2_with fail;go_loopw [5] (fun i wr=>∃k:Nat,k≤n∧i = .int .i64 k∧Below w w wr) (fun i _=>n-(intOf i).toNat)
 case atStart=>exact⟨0,by omega,rfl,by go_grown⟩
 case round=>
  obtain⟨k,Z,rfl,h⟩:=hrel;by_cases Q:k<n
  ·have aa:(k:Int)<(n:Int):=by omega
   have j:zfG l≠ []:=fun e=>by have:=W.out e;omega
   obtain⟨x,m⟩:=O.out k Q;obtain⟨g,d,rfl,H⟩:=(V.step h) j;obtain⟨c,f,rfl,p⟩:=(R.step h) j;obtain⟨s,J,B,r,A,L⟩:=zoF H m;obtain⟨z,G,o,N,u,D⟩:=zoF p m;clear H p m j;have v:zdM [(⟨g,d+k*6,none⟩,x.kind),(⟨g,d+k*6+1,none⟩,x.bits),(⟨g,d+k*6+2,none⟩,x.limit),(⟨g,d+k*6+3,none⟩,x.rate),(⟨g,d+k*6+4,none⟩,x.first),(⟨g,d+k*6+5,none⟩,x.second),(⟨c,f+k*6,none⟩,x.kind),(⟨c,f+k*6+1,none⟩,x.bits),(⟨c,f+k*6+2,none⟩,x.limit),(⟨c,f+k*6+3,none⟩,x.rate),(⟨c,f+k*6+4,none⟩,x.first),(⟨c,f+k*6+5,none⟩,x.second)] wr:=⟨s,J,B,r,A,L,z,G,o,N,u,D,zT⟩;have S:=h.drew;obtain⟨t,M,I,C,first,E⟩:=x;simp only at v s J B r A L z G o N u D;go_wp2_with fail;refine zvL 9 0 [(U,0,9)] (zdM [(⟨g,d+k*6,none⟩,t),(⟨g,d+k*6+1,none⟩,M),(⟨g,d+k*6+2,none⟩,I),(⟨g,d+k*6+3,none⟩,C),(⟨g,d+k*6+4,none⟩,first),(⟨g,d+k*6+5,none⟩,E),(⟨c,f+k*6,none⟩,t),(⟨c,f+k*6+1,none⟩,M),(⟨c,f+k*6+2,none⟩,I),(⟨c,f+k*6+3,none⟩,C),(⟨c,f+k*6+4,none⟩,first),(⟨c,f+k*6+5,none⟩,E)]) (v) fun Y Q4 F4 hY F=> ?_;repeat refine mrh ?_
   repeat first|refine mud ?_|refine mrh ?_
   refine mdn F fun K y=> ?_;clear F hY;go_wp2_with fail;refine mok y ?_;clear y;go_wp2;go_roundw
   case rel=>exact⟨k+1,by omega,by go_num,S⟩
   case measure=>simp[intOf];omega
  ·obtain rfl:k=n:=by omega
   exact mf1 h
theorem rsameCtxs14(l:List Nat)(a b:Option Addr)(y F:Nat)(w:World)(E:l.length≤100000)(D:Rd w a (zlZ l))(A:Rd w b (zlZ l)) :
 Calls Tryz.prog 26 #[.slice a l.length y,.slice b l.length F] w fun e C=>e = .returned (.bool true)∧Below w w C:=by
 have c:=zC (zbT l);obtain⟨n,j⟩:=zvJ l.length;rw[j]at c E⊢;clear j;go_enter Tryz.func26,Tryz.ntmps26;go_wp2_with fail;go_loopw [5] (fun i wr=>∃k:Nat,k≤n∧i = .int .i64 k∧Below w w wr) (fun i _=>n-(intOf i).toNat)
 case atStart=>exact⟨0,by omega,rfl,by go_grown⟩
 case round=>
  obtain⟨k,J,rfl,f⟩:=hrel;by_cases d:k<n
  ·have G:(k:Int)<(n:Int):=by omega
   obtain⟨u,o,rfl,t⟩:=(D.step f).at (i:=k) (by rw[c.out];exact d);obtain⟨g,p,rfl,h⟩:=(A.step f).at (i:=k) (by rw[c.out];exact d);have m:=t k (by rw[c.out];exact d);have r:=h k (by rw[c.out];exact d);obtain⟨x,v⟩:∃x:Nat,(zlZ l)[k]'(by rw[c.out];exact d) = .int .u32 (x:Int):=⟨l[k]'(by have:=c.out;rw[zbT]at this;omega),by simp[zlZ]⟩;rw[v]at m r;clear t h v;have z:zdM [(⟨u,o+k,none⟩,.int .u32 (x:Int)),(⟨g,p+k,none⟩,.int .u32 (x:Int))] wr:=⟨m,r,zT⟩;have B:=f.drew;go_wp2_with fail;refine zvL 9 0 [(U,0,9)] (zdM [(⟨u,o+k,none⟩,.int .u32 (x:Int)),(⟨g,p+k,none⟩,.int .u32 (x:Int))]) (z) fun Y H I hY s=> ?_;repeat refine mrh ?_
   repeat first|refine mud ?_|refine mrh ?_
   refine mdn s fun K q=> ?_;clear s hY;go_wp2_with fail;refine mok q ?_;clear q;go_wp2;go_roundw
   case rel=>exact⟨k+1,by omega,by go_num,B⟩
   case measure=>simp[intOf];omega
  ·obtain rfl:k=n:=by omega
   exact mf1 f
theorem rsamePart14(p:S14.P)(y z:Lay)(w:World)(m:PIs p y w)(j:PIs p z w)(B:p.ctrs.length≤100000)(G:p.m.ctrs.length≤100000) :
 Calls Tryz.prog 27 #[PV p y,PV p z] w fun e w'=>e = .returned (.bool true)∧Below w w w':=by
 have T:=zC fun(W:World) (a:Below w w W)=>zhY p.ctrs y.a1 z.a1 y.c1 z.c1 W B (m.rc.step a) (j.rc.step a)
 have ae:=zC fun(W:World) (a:Below w w W)=>(show Calls Tryz.prog 53 #[.agg #[p.sb,.slice y.a2 p.sd.length y.c2],.agg #[p.sb,.slice z.a2 p.sd.length z.c2]] W fun e w'=>e = .returned (.bool true)∧Below W W w' by
  have h:=same10_any p.sb p.sb p.sd p.sd y.a2 z.a2 y.c2 z.c2 W (m.tab.rd.step a) (j.tab.rd.step a);rw[show(decide (p.sb=p.sb)&&((strOfNums p.sd).toList==(strOfNums p.sd).toList))=true by simp]at h;exact h)
 have J:=zC fun(W:World) (a:Below w w W)=>rsame12_eq p.m y.pl z.pl W (m.mch.step a) (j.mch.step a) G;have ag:=zC fun(W:World) (a:Below w w W)=>(show Calls Tryz.prog 55 #[.agg #[p.mi,.slice y.a3 p.mw.length y.c3],.agg #[p.mi,.slice z.a3 p.mw.length z.c3]] W _ from same13_eq p.mi p.mw _ _ W (m.mix.step a) (j.mix.step a));obtain⟨ay,cy,D,aq,aI,I⟩:=m.apm;obtain⟨az,cz,E,ak,av,H⟩:=j.apm;have D:ay=y.a4:=by
  unfold ApmC at D;simp at D;exact D.1.symm
 have E:az=z.a4:=by
  unfold ApmC at E;simp at E;exact E.1.symm
 subst D;subst E;have v:(yB p y)[0]? = some (.slice y.a1 p.ctrs.length y.c1)∧(yB p y)[3]? = some (.int .i64 p.slot)∧(yB p y)[15]? = some (.slice y.a4 p.ac.length y.c4):=⟨rfl,rfl,rfl⟩;have s:(yB p z)[0]? = some (.slice z.a1 p.ctrs.length z.c1)∧(yB p z)[3]? = some (.int .i64 p.slot)∧(yB p z)[15]? = some (.slice z.a4 p.ac.length z.c4):=⟨rfl,rfl,rfl⟩;have l:((yB p y).drop 1).take 2 = [.int .i64 p.sb,.slice y.a2 p.sd.length y.c2]∧((yB p y).drop 4).take 9=yX p.m y.pl∧((yB p y).drop 13).take 2 = [.int .i64 p.mi,.slice y.a3 p.mw.length y.c3]:=⟨rfl,rfl,rfl⟩;have f:((yB p z).drop 1).take 2 = [.int .i64 p.sb,.slice z.a2 p.sd.length z.c2]∧((yB p z).drop 4).take 9=yX p.m z.pl∧((yB p z).drop 13).take 2 = [.int .i64 p.mi,.slice z.a3 p.mw.length z.c3]:=⟨rfl,rfl,rfl⟩;have ad:(yX p.m y.pl).length=9:=rfl;have ab:(yX p.m z.pl).length=9:=rfl;unfold PV;unfold MV at J;obtain⟨V1,V2,M1,M2,ap,aj,an,ar⟩:=zz4 (yB p y) (yB p z) (yX p.m y.pl) (yX p.m z.pl);rw[ap]at v l⊢;rw[aj]at s f⊢;rw[an]at l ad J;rw[ar]at f ab J;obtain⟨l1,l2,l3,F,h1,h2,h3,h4⟩:=zz4 p.ctrs.length p.sd.length p.mw.length p.ac;obtain⟨sb,so,mi,h5,h6,h7⟩:=zz3 p.sb p.slot p.mi;rw[h1]at T;rw[h1,h4,h6]at v s;rw[h2,h3,h5,h7]at l f;rw[h2,h5]at ae;rw[h3,h7]at ag;rw[h4]at I H aq ak;obtain⟨aT,aS,aC,aJ,yp,ax,aM,aQ,au⟩:=y;obtain⟨aV,aP,aL,aD,zp,aF,aw,aR,al⟩:=z;simp only at T ae ag v s l f I H;obtain⟨W1,ao,k1,k2,B1⟩:=al2 w V1 V2 50 50;obtain⟨d,g,aH,aB⟩:=zh4 (zZ v l) (zZ s f) ad ab;obtain⟨aN,aO⟩:=zh2 I H;have aG:F.length≤9223372036854775807:=by omega
 clear v l s f ad ab I H m j h1 h2 h3 h4 h5 h6 h7 ap aj an ar B G aq ak aI av;have c0:W1.cell? ⟨w,0,none⟩=_:=(k1.cell 0).trans d.out.1.1;have d0:W1.cell? ⟨w.heap.size+1,0,none⟩=_:=(k2.cell 0).trans g.out.1.1;go_enter Tryz.func27,Tryz.ntmps27;go_wp2_with (rw[ao]);refine(T.out _ B1).mono ?_;rintro e w2 ⟨rfl,R⟩;have af:=k1.step R;have ah:=k2.step R;have Z:=zA B1 R;clear c0 d0 k1 k2 B1 R ao;go_wp2_with (first
  | (refine zcZ 40 (.tmp 13) by3 by3 w.heap.size 1 by3 [sb,.slice aC l2 aJ] (af.mid14 d.out.2.1) _ Tryz.underlying40 rfl ztB ?_)
  | (refine zcZ 40 (.tmp 15) by3 by3 (w.heap.size+1) 1 by3 [sb,.slice aL l2 aD] (ah.mid14 g.out.2.1) _ Tryz.underlying40 rfl ztB ?_))
 refine(ae.out _ Z).mono ?_;rintro e w3 ⟨rfl,Q⟩;have M:=af.step Q;have N:=ah.step Q;have X:=zA Z Q;have c3:w3.cell? ⟨w,3,none⟩=_:=(M.cell 3).trans d.out.1.2.1;have d3:w3.cell? ⟨w.heap.size+1,3,none⟩=_:=(N.cell 3).trans g.out.1.2.1;clear af ah Z Q;go_wp2_with (first
  | (refine zcZ 43 (.tmp 28) by3 by3 w.heap.size 4 by3 M1 (M.mid14 d.out.2.2.1) _ Tryz.underlying43 rfl (info_M14.trans (yG some aH.out.symm)) ?_)
  | (refine zcZ 43 (.tmp 30) by3 by3 (w.heap.size+1) 4 by3 M2 (N.mid14 g.out.2.2.1) _ Tryz.underlying43 rfl (info_M14.trans (yG some aB.out.symm)) ?_))
 refine(J.out _ X).mono ?_;rintro e w4 ⟨rfl,L⟩;have aa:=M.step L;have V:=N.step L;have B4:=zA X L;clear c3 d3 M N X L;go_wp2_with (first
  | (refine zcZ 46 (.tmp 36) by3 by3 w.heap.size 13 by3 [mi,.slice ax l3 aM] (aa.mid14 d.out.2.2.2) _ Tryz.underlying46 rfl info_X14e ?_)
  | (refine zcZ 46 (.tmp 38) by3 by3 (w.heap.size+1) 13 by3 [mi,.slice aF l3 aw] (V.mid14 g.out.2.2.2) _ Tryz.underlying46 rfl info_X14e ?_))
 refine(ag.out _ B4).mono ?_;rintro e S ⟨rfl,O⟩;have aE:=aa.step O;have aK:=V.step O;have B5:=zA B4 O;have o:S.cell? ⟨w,15,none⟩=_:=(aE.cell 15).trans d.out.1.2.2;have t:S.cell? ⟨w.heap.size+1,15,none⟩=_:=(aK.cell 15).trans g.out.1.2.2;clear aa V B4 O;obtain⟨n,hn⟩:=zvJ F.length;rw[hn]at o t aG;have c:=zC hn;clear hn;have P:=zC (zZ o t);go_wp2_with fail;clear o t;go_loopw [5] (fun i wr=>∃k:Nat,k≤n∧i = .int .i64 k∧Below S S wr) (fun i _=>n-(intOf i).toNat)
 case atStart=>exact⟨0,by omega,rfl,zJ _ _⟩
 case round=>
  obtain⟨k,hk,rfl,C⟩:=hrel;have o:=(C.cell (zE P.out.1)).trans P.out.1;have t:=(C.cell (zE P.out.2)).trans P.out.2;by_cases b:k<n
  ·have aU:(k:Int)<(n:Int):=by omega
   have BB:=zA B5 C;obtain⟨q,u,rfl,am⟩:=(aN.out.step BB).at (i:=k) (by rw[zR,c.out];exact b);obtain⟨r,A,rfl,ai⟩:=(aO.out.step BB).at (i:=k) (by rw[zR,c.out];exact b);have B:wr.cell? ⟨q,u+k,none⟩=some (.int .i64 (F[k]'(by rw[c.out];exact b))):=by rw[am k (by rw[zR,c.out];exact b)];simp[zaE]
   have G:wr.cell? ⟨r,A+k,none⟩=some (.int .i64 (F[k]'(by rw[c.out];exact b))):=by rw[ai k (by rw[zR,c.out];exact b)];simp[zaE]
   obtain⟨x,hx⟩:=zvJ (F[k]'(by rw[c.out];exact b));rw[hx]at B G;clear am ai hx BB;have hC:zdM [(⟨w,15,none⟩,.slice (some ⟨q,u,none⟩) n au),(⟨w.heap.size+1,15,none⟩,.slice (some ⟨r,A,none⟩) n al),(⟨q,u+k,none⟩,x),(⟨r,A+k,none⟩,x)] wr:=⟨o,t,B,G,zT⟩;have aA:=C.drew;go_wp2_with fail;refine zvL 13 0 [(U,0,13)] (zdM [(⟨w,15,none⟩,.slice (some ⟨q,u,none⟩) n au),(⟨w.heap.size+1,15,none⟩,.slice (some ⟨r,A,none⟩) n al),(⟨q,u+k,none⟩,x),(⟨r,A+k,none⟩,x)]) (hC) fun Y Q4 F4 hY hF=> ?_;repeat refine mrh ?_
   repeat first|refine mud ?_|refine mrh ?_
   refine mdn hF fun K hK=> ?_;clear hF hY;go_wp2_with fail;refine mok hK ?_;clear hK;go_wp2;go_roundw
   case rel=>exact⟨k+1,by omega,by go_num,aA⟩
   case measure=>simp[intOf];omega
  ·obtain rfl:k=n:=by omega
   go_wp2;go_returns;exact⟨rfl,zA B5 C⟩
theorem rsame14_eq(N:S14.N)(b a:NLay)(w:World)(m:NIs N b w)(s:NIs N a w)(aj:N.comps.length≤100000)(af:N.ctxs.length≤100000)(hc:∀p∈N.parts,p.ctrs.length≤100000∧p.m.ctrs.length≤100000) :
 Calls Tryz.prog 8 #[NV N b,NV N a] w fun e w'=>e = .returned (.bool true)∧Below w w w':=by
 have HC:=zC fun(W:World) (d:Below w w W)=>rsameComps14 N.comps b.a1 a.a1 b.c1 a.c1 W aj (m.rc.step d) (s.rc.step d);have HX:=zC fun(W:World) (d:Below w w W)=>rsameCtxs14 N.ctxs b.a3 a.a3 b.c3 a.c3 W af (m.rx.step d) (s.rx.step d);have ao:N.parts.length≤9223372036854775807:=by have:=m.l2;omega
 obtain⟨t,c,r,x,J,q,T,ag⟩:=zz4 N.comps.length N.parts.length N.ctxs.length N.part;unfold NV zaN;rw[J,q,T,ag];rw[J]at HC;rw[T]at HX;rw[q]at ao;obtain⟨aa,H1,H2,Hc⟩:=zh4 q m s hc;clear J q T ag m s hc aj af;obtain⟨W1,ah,O,L,I⟩:=al2 w [.slice b.a1 t b.c1,.slice b.a2 c b.c2,.slice b.a3 r b.c3,x] [.slice a.a1 t a.c1,.slice a.a2 c a.c2,.slice a.a3 r a.c3,x] 26 26;have c0:W1.cell? ⟨w,0,none⟩=some (.slice b.a1 t b.c1):=O.cell 0;have d0:W1.cell? ⟨w.heap.size+1,0,none⟩=some (.slice a.a1 t a.c1):=L.cell 0;go_enter Tryz.func8,Tryz.ntmps8;go_wp2_with (rw[ah]);refine(HC.out _ I).mono ?_;rintro e f ⟨rfl,A⟩;have R:=O.step A;have V:=L.step A;have C:=zA I A;have c2:f.cell? ⟨w,2,none⟩=some (.slice b.a3 r b.c3):=R.cell 2;have d2:f.cell? ⟨w.heap.size+1,2,none⟩=some (.slice a.a3 r a.c3):=V.cell 2;clear c0 d0 O L I A ah;go_wp2_with fail;refine(HX.out _ C).mono ?_;rintro e g ⟨rfl,v⟩;have ad:=R.step v;have ae:=V.step v;have B3:=zA C v;have c3:g.cell? ⟨w,3,none⟩=some (.int .i64 x):=ad.cell 3;have d3:g.cell? ⟨w.heap.size+1,3,none⟩=some (.int .i64 x):=ae.cell 3;have o:g.cell? ⟨w,1,none⟩=some (.slice b.a2 c b.c2):=ad.cell 1;have h:g.cell? ⟨w.heap.size+1,1,none⟩=some (.slice a.a2 c a.c2):=ae.cell 1;clear c2 d2 R V C v;go_wp2_with fail;clear c3 d3;have u:=zC (zZ o h);clear o h;go_loopw [5] (fun i wr=>∃k:Nat,k≤c∧i = .int .i64 k∧Below g g wr) (fun i _=>c-(intOf i).toNat)
 case atStart=>exact⟨0,by omega,rfl,zJ _ _⟩
 case round=>
  obtain⟨k,hk,rfl,l⟩:=hrel;have o:=(l.cell (zE u.out.1)).trans u.out.1;have h:=(l.cell (zE u.out.2)).trans u.out.2;by_cases aq:k<c
  ·have ar:(k:Int)<(c:Int):=by omega
   have P:=zA B3 l;obtain⟨B,E,p,y,e1,S,hy,Q,hP⟩:=(H1.out.step P).part_at (k:=k) (by have:=aa.out;omega);obtain⟨D,G,p',z,e2,ab,hz,H,hQ⟩:=(H2.out.step P).part_at (k:=k) (by have:=aa.out;omega);rw[S]at ab;cases ab;have M:=Hc.out p (yF S);have j:=fun(W:World) (d:Below wr wr W)=>rsamePart14 p y z W (hP.step d) (hQ.step d) M.1 M.2;rw[e1]at o;rw[e2]at h;unfold PV at j;have Z:some 16=some (yB p y).length:=rfl;have X:some 16=some (yB p z).length:=rfl;obtain⟨P1,P2,ai,ac⟩:=zz2 (yB p y) (yB p z);rw[ai]at j Q Z;rw[ac]at j H X;obtain⟨am,HI,HJ⟩:=zh3 j Z X;have al:=fun(W:World) (d:Below wr wr W)=>yV Q d;have ak:=fun(W:World) (d:Below wr wr W)=>yV H d;have ap:Cells wr [(⟨w,1,none⟩,.slice (some ⟨B,E,none⟩) c b.c2),(⟨w.heap.size+1,1,none⟩,.slice (some ⟨D,G,none⟩) c a.c2)]:=⟨o,h,zT⟩;have F:=Keeps.start ap;clear j ai ac Z X S hy hz hP hQ M Q H e1 e2 P;go_wp2_with fail;refine zvL 12 0 [(U,0,4),(U,4,1),(U,5,4),(U,9,1),(zvE,10,1),(U,11,1)] (Keeps wr [(⟨w,1,none⟩,.slice (some ⟨B,E,none⟩) c b.c2),(⟨w.heap.size+1,1,none⟩,.slice (some ⟨D,G,none⟩) c a.c2)]) (F) fun Y Q4 F4 hY hF=> ?_;repeat refine mrd ?_
   repeat
    first
     | (apply zaH (by rw[hY];rfl)
        ·intro f n;exact zdB 50 (.tmp 46) by3 B (E+k*16) by3 P1 (al f n.1) _ Tryz.underlying50 rfl (info_P.trans HI.out)
        simp only[zvF])
     | (apply zaH (by rw[hY];rfl)
        ·intro f n;exact zdB 50 (.tmp 51) by3 D (G+k*16) by3 P2 (ak f n.1) _ Tryz.underlying50 rfl (info_P.trans HJ.out)
        simp only[zvF])
     | (apply zaH (by rw[hY];rfl)
        ·intro f n;(try simp only[Keeps,Cells]at n);go_simp;with_reducible rfl
        simp only[zvF])
   refine mcl ?_;refine mck F (am.out _ F.1) fun w6 au an=> ?_;repeat refine mrd ?_
   refine mdn hF fun K hK=> ?_;clear hF hY;have B7:=zA l an.1;go_wp2_with fail;refine mok hK ?_;clear hK;go_wp2;go_roundw
   case rel=>exact⟨k+1,by omega,by go_num,B7⟩
   case measure=>simp[intOf];omega
  ·obtain rfl:k=c:=by omega
   go_wp2;go_returns;exact⟨rfl,zA B3 l⟩
