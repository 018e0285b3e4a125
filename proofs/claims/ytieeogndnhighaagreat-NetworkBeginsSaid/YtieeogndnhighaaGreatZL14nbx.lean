/- A part of the proof of L14n. No condition. -/
import Derived.Test.YtieeogndnhighaaGreatZL14nbq
import Derived.Test.YtieeogndnhighaaGreatZL14nbu
set_option linter.all false
set_option maxRecDepth 100000
set_option maxHeartbeats 2000000
namespace Go.Proofs.YtieeogndnhighaaGreat
open Go.RowKit
theorem zbJ{P:Program}{w:World}{ops:Array Oper}{rest:List Oper}{o:Oper}{a:Act}{Q:Exit→Act→World→Prop}(T:TypeId)(x:Operand)(hw:Region.wanted o (yielded ops a.tmps)=true)(ho:o.op = .load T x)
 (b off:Nat) (hx:a.eval x = .pointer (some ⟨b,off,none⟩)) (cs:List Value) (hc:w.rangeAt b off cs) (d:TypeDesc) (hu:P.underlying T=some d) (hd:d.isRow=true) (hi:(P.info? T).map (·.size)=some cs.length)
 (h:wpList P ops Q rest (a.put o.dst (.agg cs.toArray)) w):wpList P ops Q (o::rest) a w:=by
 simp only[wpList,hw,if_true];exact .inl (wp_load_mid T x ho b off hx cs d hc hu hd hi h)
theorem zpG:(Tryz.prog.info? 75).map (·.size)=some 2:=by kernel_rfl
theorem info_X14e:(Tryz.prog.info? 79).map (·.size)=some 2:=by kernel_rfl
theorem rsameComps14(l:List S14.C)(a b:Option Addr)(ca cb:Nat)(w:World)(hn:l.length≤100000)(ha:Rd w a (zcS l))(hb:Rd w b (zcS l)) :
 Calls Tryz.prog 47 #[.slice a l.length ca,.slice b l.length cb] w fun e w'=>e = .returned (.bool true)∧Below w.heap.size w w':=by
 obtain⟨n,hnn⟩:∃n,l.length=n:=⟨_,rfl⟩;have Hat:=zD fun k (hk:k<n)=>(⟨_,zI (by omega)⟩:∃x,l[k]? = some x);have Hne:=zD (fun(e:zcS l = [])=>show n=0 by have:=yQ List.length e;rw[yT,List.length_nil]at this;omega);rw[hnn]at hn⊢;clear hnn;go_enter Tryz.func47,Tryz.ntmps47;go_wp2_with fail;go_loopw [5] (fun i wr=>∃k:Nat,k≤n∧i = .int .i64 k∧Below w.heap.size w wr) (fun i _=>n-(intOf i).toNat)
 case atStart=>exact⟨0,by omega,rfl,by go_grown⟩
 case round=>
  obtain⟨k,hk,rfl,hB⟩:=hrel;by_cases hlt:k<n
  ·have hl4:(k:Int)<(n:Int):=by omega
   have hne:zcS l≠ []:=fun e=>by have:=Hne.out e;omega
   obtain⟨x,hx⟩:=Hat.out k hlt;obtain⟨ba,oa,rfl,hra⟩:=(ha.step hB) hne;obtain⟨bb,ob,rfl,hrb⟩:=(hb.step hB) hne;obtain⟨x0,x1,x2,x3,x4,x5⟩:=zhK hra hx;obtain⟨y0,y1,y2,y3,y4,y5⟩:=zhK hrb hx;clear hra hrb hx hne;have hC:zbF [(⟨ba,oa+k*6,none⟩,.int .i64 x.kind),(⟨ba,oa+k*6+1,none⟩,.int .i64 x.bits),(⟨ba,oa+k*6+2,none⟩,.int .i64 x.limit),(⟨ba,oa+k*6+3,none⟩,.int .i64 x.rate),(⟨ba,oa+k*6+4,none⟩,.int .i64 x.first),(⟨ba,oa+k*6+5,none⟩,.int .i64 x.second),(⟨bb,ob+k*6,none⟩,.int .i64 x.kind),(⟨bb,ob+k*6+1,none⟩,.int .i64 x.bits),(⟨bb,ob+k*6+2,none⟩,.int .i64 x.limit),(⟨bb,ob+k*6+3,none⟩,.int .i64 x.rate),(⟨bb,ob+k*6+4,none⟩,.int .i64 x.first),(⟨bb,ob+k*6+5,none⟩,.int .i64 x.second)] wr:=⟨x0,x1,x2,x3,x4,x5,y0,y1,y2,y3,y4,y5,yJ⟩;have hB4:=hB.drew;obtain⟨kind,bits,limit,rate,first,second⟩:=x;simp only at hC x0 x1 x2 x3 x4 x5 y0 y1 y2 y3 y4 y5;go_wp2_with fail;refine zrE 9 0 [(U,[U,U,U,U,U,U,U,U,U])] (zbF [(⟨ba,oa+k*6,none⟩,.int .i64 kind),(⟨ba,oa+k*6+1,none⟩,.int .i64 bits),(⟨ba,oa+k*6+2,none⟩,.int .i64 limit),(⟨ba,oa+k*6+3,none⟩,.int .i64 rate),(⟨ba,oa+k*6+4,none⟩,.int .i64 first),(⟨ba,oa+k*6+5,none⟩,.int .i64 second),(⟨bb,ob+k*6,none⟩,.int .i64 kind),(⟨bb,ob+k*6+1,none⟩,.int .i64 bits),(⟨bb,ob+k*6+2,none⟩,.int .i64 limit),(⟨bb,ob+k*6+3,none⟩,.int .i64 rate),(⟨bb,ob+k*6+4,none⟩,.int .i64 first),(⟨bb,ob+k*6+5,none⟩,.int .i64 second)]) (by kernel_rfl) (hC) (fun Y Q4 F4 hY hF=> ?_);simp only[zrC]
   repeat
    apply zF (by rw[hY];rfl)
    ·intro w2 hS2;(try simp only[Keeps,zbF,Cells]at hS2);go_simp;with_reducible rfl
    simp only[zrB]
   repeat
    first
     | (apply zR (by rw[hY];rfl);simp only[zrB])
     | (apply zF (by rw[hY];rfl)
        ·intro w2 hS2;(try simp only[Keeps,zbF,Cells]at hS2);go_simp;with_reducible rfl
        simp only[zrB])
   refine zZ (hF.out _ _ (fun K hK=> ?_));clear hF hY;go_wp2_with fail;refine OnlyK.mk (hK.out _ _ ?_);clear hK;go_wp2;go_roundw
   case rel=>exact⟨k+1,by omega,by go_num,hB4⟩
   case measure=>simp[intOf];omega
  ·obtain rfl:k=n:=by omega
   go_wp2;go_returns;exact⟨rfl,hB⟩
theorem rsameCtxs14(l:List Nat)(a b:Option Addr)(ca cb:Nat)(w:World)(hn:l.length≤100000)(ha:Rd w a (zmF l))(hb:Rd w b (zmF l)) :
 Calls Tryz.prog 48 #[.slice a l.length ca,.slice b l.length cb] w fun e w'=>e = .returned (.bool true)∧Below w.heap.size w w':=by
 have Hl:=zD (zbV l);obtain⟨n,hnn⟩:∃n,l.length=n:=⟨_,rfl⟩;rw[hnn]at Hl hn⊢;clear hnn;go_enter Tryz.func48,Tryz.ntmps48;go_wp2_with fail;go_loopw [5] (fun i wr=>∃k:Nat,k≤n∧i = .int .i64 k∧Below w.heap.size w wr) (fun i _=>n-(intOf i).toNat)
 case atStart=>exact⟨0,by omega,rfl,by go_grown⟩
 case round=>
  obtain⟨k,hk,rfl,hB⟩:=hrel;by_cases hlt:k<n
  ·have hl4:(k:Int)<(n:Int):=by omega
   obtain⟨ba,oa,rfl,hra⟩:=(ha.step hB).at (i:=k) (by rw[Hl.out];exact hlt);obtain⟨bb,ob,rfl,hrb⟩:=(hb.step hB).at (i:=k) (by rw[Hl.out];exact hlt);have x0:=hra k (by rw[Hl.out];exact hlt);have y0:=hrb k (by rw[Hl.out];exact hlt);obtain⟨x,hx⟩:∃x:Nat,(zmF l)[k]'(by rw[Hl.out];exact hlt) = .int .u32 (x:Int):=⟨l[k]'(by have:=Hl.out;rw[zbV]at this;omega),by simp[zmF]⟩;rw[hx]at x0 y0;clear hra hrb hx;have hC:zbF [(⟨ba,oa+k,none⟩,.int .u32 (x:Int)),(⟨bb,ob+k,none⟩,.int .u32 (x:Int))] wr:=⟨x0,y0,yJ⟩;have hB4:=hB.drew;go_wp2_with fail;refine zrE 9 0 [(U,[U,U,U,U,U,U,U,U,U])] (zbF [(⟨ba,oa+k,none⟩,.int .u32 (x:Int)),(⟨bb,ob+k,none⟩,.int .u32 (x:Int))]) (by kernel_rfl) (hC) (fun Y Q4 F4 hY hF=> ?_);simp only[zrC]
   repeat
    apply zF (by rw[hY];rfl)
    ·intro w2 hS2;(try simp only[Keeps,zbF,Cells]at hS2);go_simp;with_reducible rfl
    simp only[zrB]
   repeat
    first
     | (apply zR (by rw[hY];rfl);simp only[zrB])
     | (apply zF (by rw[hY];rfl)
        ·intro w2 hS2;(try simp only[Keeps,zbF,Cells]at hS2);go_simp;with_reducible rfl
        simp only[zrB])
   refine zZ (hF.out _ _ (fun K hK=> ?_));clear hF hY;go_wp2_with fail;refine OnlyK.mk (hK.out _ _ ?_);clear hK;go_wp2;go_roundw
   case rel=>exact⟨k+1,by omega,by go_num,hB4⟩
   case measure=>simp[intOf];omega
  ·obtain rfl:k=n:=by omega
   go_wp2;go_returns;exact⟨rfl,hB⟩
theorem rsamePart14(p:S14.P)(y z:Lay)(w:World)(hP:PIs p y w)(hQ:PIs p z w)(hc1:p.ctrs.length≤100000)(hc2:p.m.ctrs.length≤100000) :
 Calls Tryz.prog 49 #[PV p y,PV p z] w fun e w'=>e = .returned (.bool true)∧Below w.heap.size w w':=by
 have H08:=zD fun(W:World) (hW:Below w.heap.size w W)=>zgC p.ctrs y.a1 z.a1 y.c1 z.c1 W hc1 (hP.rc.step hW) (hQ.rc.step hW)
 have H10:=zD fun(W:World) (hW:Below w.heap.size w W)=>(show Calls Tryz.prog 76 #[.agg #[.int .i64 p.sb,.slice y.a2 p.sd.length y.c2],.agg #[.int .i64 p.sb,.slice z.a2 p.sd.length z.c2]] W fun e w'=>e = .returned (.bool true)∧Below W.heap.size W w' by
  have h:=same10_any p.sb p.sb p.sd p.sd y.a2 z.a2 y.c2 z.c2 W (hP.tab.rd.step hW) (hQ.tab.rd.step hW);rw[show(decide (p.sb=p.sb)&&((strOfNums p.sd).toList==(strOfNums p.sd).toList))=true by simp]at h;exact h)
 have H12:=zD fun(W:World) (hW:Below w.heap.size w W)=>rsame12_eq p.m y.pl z.pl W (hP.mch.step hW) (hQ.mch.step hW) hc2;have H13:=zD fun(W:World) (hW:Below w.heap.size w W)=>(show Calls Tryz.prog 78 #[.agg #[.int .i64 p.mi,.slice y.a3 p.mw.length y.c3],.agg #[.int .i64 p.mi,.slice z.a3 p.mw.length z.c3]] W _ from same13_eq p.mi p.mw _ _ W (hP.mix.step hW) (hQ.mix.step hW));obtain⟨ay,cy,ey,ly1,ly2,ry⟩:=hP.apm;obtain⟨az,cz,ez,lz1,lz2,rz⟩:=hQ.apm;have ey:ay=y.a4:=by
  unfold ApmC at ey;simp at ey;exact ey.1.symm
 have ez:az=z.a4:=by
  unfold ApmC at ez;simp at ez;exact ez.1.symm
 subst ey;subst ez;have hV1:(yG p y)[0]? = some (.slice y.a1 p.ctrs.length y.c1)∧(yG p y)[3]? = some (.int .i64 p.slot)∧(yG p y)[15]? = some (.slice y.a4 p.ac.length y.c4):=⟨rfl,rfl,rfl⟩;have hV2:(yG p z)[0]? = some (.slice z.a1 p.ctrs.length z.c1)∧(yG p z)[3]? = some (.int .i64 p.slot)∧(yG p z)[15]? = some (.slice z.a4 p.ac.length z.c4):=⟨rfl,rfl,rfl⟩;have hM1:((yG p y).drop 1).take 2 = [.int .i64 p.sb,.slice y.a2 p.sd.length y.c2]∧((yG p y).drop 4).take 9=zbQ p.m y.pl∧((yG p y).drop 13).take 2 = [.int .i64 p.mi,.slice y.a3 p.mw.length y.c3]:=⟨rfl,rfl,rfl⟩;have hM2:((yG p z).drop 1).take 2 = [.int .i64 p.sb,.slice z.a2 p.sd.length z.c2]∧((yG p z).drop 4).take 9=zbQ p.m z.pl∧((yG p z).drop 13).take 2 = [.int .i64 p.mi,.slice z.a3 p.mw.length z.c3]:=⟨rfl,rfl,rfl⟩;have hml1:(zbQ p.m y.pl).length=9:=rfl;have hml2:(zbQ p.m z.pl).length=9:=rfl;unfold PV;unfold MV at H12;obtain⟨V1,hV1e⟩:∃v,yG p y=v:=⟨_,rfl⟩;obtain⟨V2,hV2e⟩:∃v,yG p z=v:=⟨_,rfl⟩;obtain⟨M1,hM1e⟩:∃v,zbQ p.m y.pl=v:=⟨_,rfl⟩;obtain⟨M2,hM2e⟩:∃v,zbQ p.m z.pl=v:=⟨_,rfl⟩;rw[hV1e]at hV1 hM1⊢;rw[hV2e]at hV2 hM2⊢;rw[hM1e]at hM1 hml1 H12;rw[hM2e]at hM2 hml2 H12;obtain⟨l1,h1⟩:∃n,p.ctrs.length=n:=⟨_,rfl⟩;obtain⟨l2,h2⟩:∃n,p.sd.length=n:=⟨_,rfl⟩;obtain⟨l3,h3⟩:∃n,p.mw.length=n:=⟨_,rfl⟩;obtain⟨ac,h4⟩:∃n,p.ac=n:=⟨_,rfl⟩;obtain⟨sb,h5⟩:∃n,p.sb=n:=⟨_,rfl⟩;obtain⟨so,h6⟩:∃n,p.slot=n:=⟨_,rfl⟩;obtain⟨mi,h7⟩:∃n,p.mi=n:=⟨_,rfl⟩;rw[h1]at H08;rw[h1,h4,h6]at hV1 hV2;rw[h2,h3,h5,h7]at hM1 hM2;rw[h2,h5]at H10;rw[h3,h7]at H13;rw[h4]at ry rz ly1 lz1;obtain⟨ya1,yc1,ya2,yc2,yp,ya3,yc3,ya4,yc4⟩:=y;obtain⟨za1,zc1,za2,zc2,zp,za3,zc3,za4,zc4⟩:=z;simp only at H08 H10 H13 hV1 hV2 hM1 hM2 ry rz;obtain⟨W1,hW1⟩:∃W,(w.alloc (.cells V1.toArray 83)).alloc (.cells V2.toArray 83)=W:=⟨_,rfl⟩;have k1:Blk W1 w.heap.size V1 83:=by rw[←hW1];exact(Blk.new w _ _).alloc _
 have k2:Blk W1 (w.heap.size+1) V2 83:=by
  rw[←hW1];have h:=Blk.new (w.alloc (.cells V1.toArray 83)) V2 83;rwa[yA]at h
 have B1:Below w.heap.size w W1:=by rw[←hW1];exact((zG _ _).alloc (zE _) _).alloc (by simp) _
 have Hm1:=zD (zeV hV1 hM1);have Hm2:=zD (zeV hV2 hM2);have Hml1:=zD hml1;have Hml2:=zD hml2;have Hry:=zD ry;have Hrz:=zD rz;have hacl:ac.length≤9223372036854775807:=by omega
 clear hV1 hM1 hV2 hM2 hml1 hml2 ry rz hP hQ h1 h2 h3 h4 h5 h6 h7 hV1e hV2e hM1e hM2e hc1 hc2 ly1 lz1 ly2 lz2;have c0:W1.cell? ⟨w.heap.size,0,none⟩=_:=(k1.cell 0).trans Hm1.out.1.1;have d0:W1.cell? ⟨w.heap.size+1,0,none⟩=_:=(k2.cell 0).trans Hm2.out.1.1;go_enter Tryz.func49,Tryz.ntmps49;go_wp2_with (rw[hW1]);refine(H08.out _ B1).mono ?_;rintro e w2 ⟨rfl,hb2⟩;have k12:=k1.step hb2;have k22:=k2.step hb2;have B2:=zA B1 hb2;clear c0 d0 k1 k2 B1 hb2 hW1;go_wp2_with (first
  | (refine zbJ 75 (.tmp 13) (by rfl) (by rfl) w.heap.size 1 (by rfl) [.int .i64 sb,.slice ya2 l2 yc2] (k12.mid14 Hm1.out.2.1) _ Tryz.underlying75 rfl zpG ?_)
  | (refine zbJ 75 (.tmp 15) (by rfl) (by rfl) (w.heap.size+1) 1 (by rfl) [.int .i64 sb,.slice za2 l2 zc2] (k22.mid14 Hm2.out.2.1) _ Tryz.underlying75 rfl zpG ?_))
 refine(H10.out _ B2).mono ?_;rintro e w3 ⟨rfl,hb3⟩;have k13:=k12.step hb3;have k23:=k22.step hb3;have B3:=zA B2 hb3;have c3:w3.cell? ⟨w.heap.size,3,none⟩=_:=(k13.cell 3).trans Hm1.out.1.2.1;have d3:w3.cell? ⟨w.heap.size+1,3,none⟩=_:=(k23.cell 3).trans Hm2.out.1.2.1;clear k12 k22 B2 hb3;go_wp2_with (first
  | (refine zbJ 77 (.tmp 28) (by rfl) (by rfl) w.heap.size 4 (by rfl) M1 (k13.mid14 Hm1.out.2.2.1) _ Tryz.underlying77 rfl (info_M14.trans (yQ some Hml1.out.symm)) ?_)
  | (refine zbJ 77 (.tmp 30) (by rfl) (by rfl) (w.heap.size+1) 4 (by rfl) M2 (k23.mid14 Hm2.out.2.2.1) _ Tryz.underlying77 rfl (info_M14.trans (yQ some Hml2.out.symm)) ?_))
 refine(H12.out _ B3).mono ?_;rintro e w4 ⟨rfl,hb4⟩;have k14:=k13.step hb4;have k24:=k23.step hb4;have B4:=zA B3 hb4;clear c3 d3 k13 k23 B3 hb4;go_wp2_with (first
  | (refine zbJ 79 (.tmp 36) (by rfl) (by rfl) w.heap.size 13 (by rfl) [.int .i64 mi,.slice ya3 l3 yc3] (k14.mid14 Hm1.out.2.2.2) _ Tryz.underlying79 rfl info_X14e ?_)
  | (refine zbJ 79 (.tmp 38) (by rfl) (by rfl) (w.heap.size+1) 13 (by rfl) [.int .i64 mi,.slice za3 l3 zc3] (k24.mid14 Hm2.out.2.2.2) _ Tryz.underlying79 rfl info_X14e ?_))
 refine(H13.out _ B4).mono ?_;rintro e w5 ⟨rfl,hb5⟩;have k15:=k14.step hb5;have k25:=k24.step hb5;have B5:=zA B4 hb5;have c15:w5.cell? ⟨w.heap.size,15,none⟩=_:=(k15.cell 15).trans Hm1.out.1.2.2;have d15:w5.cell? ⟨w.heap.size+1,15,none⟩=_:=(k25.cell 15).trans Hm2.out.1.2.2;clear k14 k24 B4 hb5;obtain⟨n,hn⟩:∃n,ac.length=n:=⟨_,rfl⟩;rw[hn]at c15 d15 hacl;have Hn:=zD hn;clear hn;have Hd:=zD (zeV c15 d15);go_wp2_with fail;clear c15 d15;go_loopw [5] (fun i wr=>∃k:Nat,k≤n∧i = .int .i64 k∧Below w5.heap.size w5 wr) (fun i _=>n-(intOf i).toNat)
 case atStart=>exact⟨0,by omega,rfl,zG _ _⟩
 case round=>
  obtain⟨k,hk,rfl,hB⟩:=hrel;have c15:=(hB.cell (zJ Hd.out.1)).trans Hd.out.1;have d15:=(hB.cell (zJ Hd.out.2)).trans Hd.out.2;by_cases hlt:k<n
  ·have hl4:(k:Int)<(n:Int):=by omega
   have BB:=zA B5 hB;obtain⟨g1,o1,rfl,hcs1⟩:=(Hry.out.step BB).at (i:=k) (by rw[yL,Hn.out];exact hlt);obtain⟨g2,o2,rfl,hcs2⟩:=(Hrz.out.step BB).at (i:=k) (by rw[yL,Hn.out];exact hlt);have hc1:wr.cell? ⟨g1,o1+k,none⟩=some (.int .i64 (ac[k]'(by rw[Hn.out];exact hlt))):=by rw[hcs1 k (by rw[yL,Hn.out];exact hlt)];simp[zaO]
   have hc2:wr.cell? ⟨g2,o2+k,none⟩=some (.int .i64 (ac[k]'(by rw[Hn.out];exact hlt))):=by rw[hcs2 k (by rw[yL,Hn.out];exact hlt)];simp[zaO]
   obtain⟨x,hx⟩:∃x,ac[k]'(by rw[Hn.out];exact hlt)=x:=⟨_,rfl⟩;rw[hx]at hc1 hc2;clear hcs1 hcs2 hx BB;have hC:zbF [(⟨w.heap.size,15,none⟩,.slice (some ⟨g1,o1,none⟩) n yc4),(⟨w.heap.size+1,15,none⟩,.slice (some ⟨g2,o2,none⟩) n zc4),(⟨g1,o1+k,none⟩,.int .i64 x),(⟨g2,o2+k,none⟩,.int .i64 x)] wr:=⟨c15,d15,hc1,hc2,yJ⟩;have hB4:=hB.drew;go_wp2_with fail;refine zrE 13 0 [(U,[U,U,U,U,U,U,U,U,U,U,U,U,U])] (zbF [(⟨w.heap.size,15,none⟩,.slice (some ⟨g1,o1,none⟩) n yc4),(⟨w.heap.size+1,15,none⟩,.slice (some ⟨g2,o2,none⟩) n zc4),(⟨g1,o1+k,none⟩,.int .i64 x),(⟨g2,o2+k,none⟩,.int .i64 x)]) (by kernel_rfl) (hC) (fun Y Q4 F4 hY hF=> ?_);simp only[zrC]
   repeat
    apply zF (by rw[hY];rfl)
    ·intro w2 hS2;(try simp only[Keeps,zbF,Cells]at hS2);go_simp;with_reducible rfl
    simp only[zrB]
   repeat
    first
     | (apply zR (by rw[hY];rfl);simp only[zrB])
     | (apply zF (by rw[hY];rfl)
        ·intro w2 hS2;(try simp only[Keeps,zbF,Cells]at hS2);go_simp;with_reducible rfl
        simp only[zrB])
   refine zZ (hF.out _ _ (fun K hK=> ?_));clear hF hY;go_wp2_with fail;refine OnlyK.mk (hK.out _ _ ?_);clear hK;go_wp2;go_roundw
   case rel=>exact⟨k+1,by omega,by go_num,hB4⟩
   case measure=>simp[intOf];omega
  ·obtain rfl:k=n:=by omega
   go_wp2;go_returns;exact⟨rfl,zA B5 hB⟩
theorem rsame14_eq(N:S14.N)(L1 L2:NLay)(w:World)(h1:NIs N L1 w)(h2:NIs N L2 w)(hl1:N.comps.length≤100000)(hl3:N.ctxs.length≤100000)(hc:∀p∈N.parts,p.ctrs.length≤100000∧p.m.ctrs.length≤100000) :
 Calls Tryz.prog 17 #[NV N L1,NV N L2] w fun e w'=>e = .returned (.bool true)∧Below w.heap.size w w':=by
 have HC:=zD fun(W:World) (hW:Below w.heap.size w W)=>rsameComps14 N.comps L1.a1 L2.a1 L1.c1 L2.c1 W hl1 (h1.rc.step hW) (h2.rc.step hW);have HX:=zD fun(W:World) (hW:Below w.heap.size w W)=>rsameCtxs14 N.ctxs L1.a3 L2.a3 L1.c3 L2.c3 W hl3 (h1.rx.step hW) (h2.rx.step hW);have hl2:N.parts.length≤9223372036854775807:=by have:=h1.l2;omega
 obtain⟨nc,hnc⟩:∃n,N.comps.length=n:=⟨_,rfl⟩;obtain⟨np,hnp⟩:∃n,N.parts.length=n:=⟨_,rfl⟩;obtain⟨nx,hnx⟩:∃n,N.ctxs.length=n:=⟨_,rfl⟩;obtain⟨pt,hpt⟩:∃n,N.part=n:=⟨_,rfl⟩;unfold NV zbP;rw[hnc,hnp,hnx,hpt];rw[hnc]at HC;rw[hnx]at HX;rw[hnp]at hl2;have Hnp:=zD hnp;have H1:=zD h1;have H2:=zD h2;have Hc:=zD hc;clear hnc hnp hnx hpt h1 h2 hc hl1 hl3;obtain⟨W1,hW1⟩:∃W,(w.alloc (.cells #[.slice L1.a1 nc L1.c1,.slice L1.a2 np L1.c2,.slice L1.a3 nx L1.c3,.int .i64 pt] 26)).alloc (.cells #[.slice L2.a1 nc L2.c1,.slice L2.a2 np L2.c2,.slice L2.a3 nx L2.c3,.int .i64 pt] 26)=W:=⟨_,rfl⟩;have k1:Blk W1 w.heap.size [.slice L1.a1 nc L1.c1,.slice L1.a2 np L1.c2,.slice L1.a3 nx L1.c3,.int .i64 pt] 26:=by rw[←hW1];exact(Blk.new w _ _).alloc _
 have k2:Blk W1 (w.heap.size+1) [.slice L2.a1 nc L2.c1,.slice L2.a2 np L2.c2,.slice L2.a3 nx L2.c3,.int .i64 pt] 26:=by
  rw[←hW1];have h:=Blk.new (w.alloc (.cells #[.slice L1.a1 nc L1.c1,.slice L1.a2 np L1.c2,.slice L1.a3 nx L1.c3,.int .i64 pt] 26)) [.slice L2.a1 nc L2.c1,.slice L2.a2 np L2.c2,.slice L2.a3 nx L2.c3,.int .i64 pt] 26;rwa[yA]at h
 have B1:Below w.heap.size w W1:=by rw[←hW1];exact((zG _ _).alloc (zE _) _).alloc (by simp) _
 have c0:W1.cell? ⟨w.heap.size,0,none⟩=some (.slice L1.a1 nc L1.c1):=k1.cell 0;have d0:W1.cell? ⟨w.heap.size+1,0,none⟩=some (.slice L2.a1 nc L2.c1):=k2.cell 0;go_enter Tryz.func17,Tryz.ntmps17;go_wp2_with (rw[hW1]);refine(HC.out _ B1).mono ?_;rintro e w2 ⟨rfl,hb2⟩;have k12:=k1.step hb2;have k22:=k2.step hb2;have B2:=zA B1 hb2;have c2:w2.cell? ⟨w.heap.size,2,none⟩=some (.slice L1.a3 nx L1.c3):=k12.cell 2;have d2:w2.cell? ⟨w.heap.size+1,2,none⟩=some (.slice L2.a3 nx L2.c3):=k22.cell 2;clear c0 d0 k1 k2 B1 hb2 hW1;go_wp2_with fail;refine(HX.out _ B2).mono ?_;rintro e w3 ⟨rfl,hb3⟩;have k13:=k12.step hb3;have k23:=k22.step hb3;have B3:=zA B2 hb3;have c3:w3.cell? ⟨w.heap.size,3,none⟩=some (.int .i64 pt):=k13.cell 3;have d3:w3.cell? ⟨w.heap.size+1,3,none⟩=some (.int .i64 pt):=k23.cell 3;have c1:w3.cell? ⟨w.heap.size,1,none⟩=some (.slice L1.a2 np L1.c2):=k13.cell 1;have d1:w3.cell? ⟨w.heap.size+1,1,none⟩=some (.slice L2.a2 np L2.c2):=k23.cell 1;clear c2 d2 k12 k22 B2 hb3;go_wp2_with fail;clear c3 d3;have Hd:=zD (zeV c1 d1);clear c1 d1;go_loopw [5] (fun i wr=>∃k:Nat,k≤np∧i = .int .i64 k∧Below w3.heap.size w3 wr) (fun i _=>np-(intOf i).toNat)
 case atStart=>exact⟨0,by omega,rfl,zG _ _⟩
 case round=>
  obtain⟨k,hk,rfl,hB⟩:=hrel;have c1:=(hB.cell (zJ Hd.out.1)).trans Hd.out.1;have d1:=(hB.cell (zJ Hd.out.2)).trans Hd.out.2;by_cases hlt:k<np
  ·have hl4:(k:Int)<(np:Int):=by omega
   have BB:=zA B3 hB;obtain⟨g1,o1,p,y,e1,hp,hy,hr1,hP⟩:=(H1.out.step BB).part_at (k:=k) (by have:=Hnp.out;omega);obtain⟨g2,o2,p',z,e2,hp',hz,hr2,hQ⟩:=(H2.out.step BB).part_at (k:=k) (by have:=Hnp.out;omega);rw[hp]at hp';cases hp';have hcc:=Hc.out p (yN hp);have HS:=fun(W:World) (hW:Below wr.heap.size wr W)=>rsamePart14 p y z W (hP.step hW) (hQ.step hW) hcc.1 hcc.2;rw[e1]at c1;rw[e2]at d1;unfold PV at HS;have hi16:some 16=some (yG p y).length:=rfl;have hj16:some 16=some (yG p z).length:=rfl;obtain⟨P1,hP1⟩:∃v,yG p y=v:=⟨_,rfl⟩;obtain⟨P2,hP2⟩:∃v,yG p z=v:=⟨_,rfl⟩;rw[hP1]at HS hr1 hi16;rw[hP2]at HS hr2 hj16;have HS2:=zD HS;have HI:=zD hi16;have HJ:=zD hj16;have hrp:=fun(W:World) (hW:Below wr.heap.size wr W)=>zaC hr1 hW;have hrq:=fun(W:World) (hW:Below wr.heap.size wr W)=>zaC hr2 hW;have hCS:Cells wr [(⟨w.heap.size,1,none⟩,.slice (some ⟨g1,o1,none⟩) np L1.c2),(⟨w.heap.size+1,1,none⟩,.slice (some ⟨g2,o2,none⟩) np L2.c2)]:=⟨c1,d1,yJ⟩;have hS0:=Keeps.start hCS;clear HS hP1 hP2 hi16 hj16 hp hy hz hP hQ hcc hr1 hr2 e1 e2 BB;go_wp2_with fail;refine zrE 12 0 [(U,[U,U,U,U]),(U,[zrA,zrA,zrA,zrA,U]),(U,[zrA,zrA,zrA,zrA,zrA,U,U,U,U]),(U,[zrA,zrA,zrA,zrA,zrA,zrA,zrA,zrA,zrA,U]),(zrA,[zrA,zrA,zrA,zrA,zrA,zrA,zrA,zrA,zrA,zrA,U]),(U,[zrA,zrA,zrA,zrA,zrA,zrA,zrA,zrA,zrA,zrA,zrA,U])] (Keeps wr [(⟨w.heap.size,1,none⟩,.slice (some ⟨g1,o1,none⟩) np L1.c2),(⟨w.heap.size+1,1,none⟩,.slice (some ⟨g2,o2,none⟩) np L2.c2)]) (by kernel_rfl) (hS0) (fun Y Q4 F4 hY hF=> ?_);simp only[zrC]
   repeat
    apply zF (by rw[hY];rfl)
    ·intro w2 hS2;(try simp only[Keeps,Cells]at hS2);go_simp;with_reducible rfl
    simp only[zrB]
   repeat
    first
     | (apply zF (by rw[hY];rfl)
        ·intro w2 hS2;exact zfA 83 (.tmp 46) (by rfl) g1 (o1+k*16) (by rfl) P1 (hrp w2 hS2.1) _ Tryz.underlying83 rfl (info_P.trans HI.out)
        simp only[zrB])
     | (apply zF (by rw[hY];rfl)
        ·intro w2 hS2;exact zfA 83 (.tmp 51) (by rfl) g2 (o2+k*16) (by rfl) P2 (hrq w2 hS2.1) _ Tryz.underlying83 rfl (info_P.trans HJ.out)
        simp only[zrB])
     | (apply zF (by rw[hY];rfl)
        ·intro w2 hS2;(try simp only[Keeps,Cells]at hS2);go_simp;with_reducible rfl
        simp only[zrB])
   apply zS (by rw[hY];rfl)
   ·go_simp;with_reducible exact⟨rfl,rfl⟩
   refine(HS2.out _ hS0.1).mono ?_;rintro e w6 ⟨rfl,hb6⟩;have hk6:=hS0.step hb6;refine⟨_,rfl,hk6,?_⟩;simp only[zrB]
   repeat
    apply zF (by rw[hY];rfl)
    ·intro w2 hS2;(try simp only[Keeps,Cells]at hS2);go_simp;with_reducible rfl
    simp only[zrB]
   refine zZ (hF.out _ _ (fun K hK=> ?_));clear hF hY;have B7:=zA hB hk6.1;go_wp2_with fail;refine OnlyK.mk (hK.out _ _ ?_);clear hK;go_wp2;go_roundw
   case rel=>exact⟨k+1,by omega,by go_num,B7⟩
   case measure=>simp[intOf];omega
  ·obtain rfl:k=np:=by omega
   go_wp2;go_returns;exact⟨rfl,zA B3 hB⟩
