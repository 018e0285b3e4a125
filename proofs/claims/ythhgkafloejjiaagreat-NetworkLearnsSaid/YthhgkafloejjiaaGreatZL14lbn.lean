/- A part of the proof of L14l. No condition. -/
import Derived.Deep.SlicePairs
import Derived.Laws.IdiomArrays
import Derived.Lib.SmallJoins
import Derived.OpenShut
import Derived.ProofKit
import Derived.Test.YthhgkafloejjiaaGreatZL14lbh
set_option linter.all false
set_option maxRecDepth 100000
set_option maxHeartbeats 1000000
namespace Go.Proofs.YthhgkafloejjiaaGreat
open Go.ChangeShapes Go.WideShapes Go.ChangeAt Go.RowKit
theorem lawOwn:ownKnob Tryz.prog.godebug=none:=by kernel_rfl
theorem lawLaid:laidOutB Tryz.prog=true:=by kernel_rfl
instance:Inhabited S14.C:=⟨⟨0,0,0,0,0,0⟩⟩
theorem cells_C14:Tryz.prog.cellsOf 56=6:=by kernel_rfl
theorem zaY:Tryz.prog.cellsOf 3=1:=by kernel_rfl
theorem comp_cells{H:Type}{enc:TypeId×Value→H}{W:World}{m:Nat}{b:List Value}{y:DataW H×List MemPlace}(o:b.length=6)
 (h:DataW.trod enc Tryz.prog W 0 (fun _=>true) true m 56 b=some y):∃x:S14.C,b=zV x:=by
 obtain⟨v,n,_,_,_,j,a⟩:=DataW.trod_struct Tryz.underlying56 h
 match b,o,v,j with
 | [c0,c1,c2,c3,c4,c5],_,[y0,y1,y2,y3,y4,y5],_=>
   have A:DataW.trod enc Tryz.prog W 0 (fun _=>true) true n 3 [c0]=some y0:=by
    have:=a 0 _ rfl;simpa[zaY] using this
   obtain⟨q,g,_,_⟩:=DataW.trod_int Tryz.underlying3 A;simp at g;subst g;have B:DataW.trod enc Tryz.prog W 0 (fun _=>true) true n 3 [c1]=some y1:=by
    have:=a 1 _ rfl;simpa[zaY] using this
   obtain⟨w,d,_,_⟩:=DataW.trod_int Tryz.underlying3 B;simp at d;subst d;have r:DataW.trod enc Tryz.prog W 0 (fun _=>true) true n 3 [c2]=some y2:=by
    have:=a 2 _ rfl;simpa[zaY] using this
   obtain⟨t,f,_,_⟩:=DataW.trod_int Tryz.underlying3 r;simp at f;subst f;have l:DataW.trod enc Tryz.prog W 0 (fun _=>true) true n 3 [c3]=some y3:=by
    have:=a 3 _ rfl;simpa[zaY] using this
   obtain⟨p,c,_,_⟩:=DataW.trod_int Tryz.underlying3 l;simp at c;subst c;have u:DataW.trod enc Tryz.prog W 0 (fun _=>true) true n 3 [c4]=some y4:=by
    have:=a 4 _ rfl;simpa[zaY] using this
   obtain⟨s,e,_,_⟩:=DataW.trod_int Tryz.underlying3 u;simp at e;subst e;have k:DataW.trod enc Tryz.prog W 0 (fun _=>true) true n 3 [c5]=some y5:=by
    have:=a 5 _ rfl;simpa[zaY] using this
   obtain⟨z,i,_,_⟩:=DataW.trod_int Tryz.underlying3 k;simp at i;subst i;exact⟨⟨q,w,t,p,s,z⟩,rfl⟩
end Go.Proofs.YthhgkafloejjiaaGreat
namespace Go.Proofs.YthhgkafloejjiaaGreat
open Go.ChangeShapes Go.WideShapes Go.ChangeAt Go.RowKit
theorem cells_u8:Tryz.prog.cellsOf 5=1:=by kernel_rfl
theorem wf_u8{x:Int}(h:(Lit.int .u8 x).wf=true):0≤x∧x<256:=by
 have:=bounds_u8 h;omega
theorem zjN{H:Type}{enc:TypeId×Value→H}{W:World}{F:Nat}{s:Value}{y:DataW H×List MemPlace}
 (I:DataW.trod enc Tryz.prog W 0 (fun _=>true) true F 38 [s]=some y) :
 ∃(a:Option Addr) (g:List Int) (q:Nat),s = .slice a g.length q∧g.length≤q∧q≤9223372036854775807∧Rd W a (Bts g)∧(∀x∈g,0≤x∧x<256):=by
 rcases Go.Deep.open_slice1 Tryz.underlying38 cells_u8 I with⟨f,_⟩|⟨x,l,c,m,n,V,D,Pl,f,_,P,K,t,_,r⟩
 ·simp at f;subst f;exact⟨none,[],0,rfl,by simp,by omega,Rd.nil _ _,fun _ h=>absurd h zbU⟩
 ·simp at f;subst f
  have G:∀i,i<l→∃z:Int,V i = .int .u8 z∧(Lit.int .u8 z).wf=true:=fun i E=>by
   obtain⟨z,w,_,L⟩:=DataW.trod_int Tryz.underlying5 (r i (by simp at t;omega)).2;simp at w;exact⟨z,w,L⟩
  obtain⟨B,u⟩:=Go.Deep.choose_lt (α:=Int) (p:=fun i z=>V i = .int .u8 z∧(Lit.int .u8 z).wf=true) G;unfold maxLen at K;simp at t;refine⟨some x,(List.range l).map B,c,by simp,by simp;omega,by omega,?_,?_⟩
  ·intro M;have O:0<l:=by
    rcases zdV l with e|e
    ·subst e;simp[Bts]at M
    ·exact e
   obtain⟨b,o,C⟩:=x;have e:=(r 0 om).1;have N:C=none:=by
    have J:W.cell? ⟨b,o,C⟩=some (V 0):=by simpa[Addr.add] using e
    exact World.cell?_spot J
   subst N;refine⟨b,o,rfl,fun j v d=> ?_⟩;simp only[Bts,List.map_map,yI]at d;have k:j<l:=by
    by_cases k:j<l
    ·exact k
    ·rw[yY by7]at d;simp at d
   rw[List.getElem?_range k]at d;simp at d;have:=(r j om).1;rw[Addr.add_mid]at this;rw[this,(u j k).1,d]
  ·intro z A;simp only[List.mem_map,List.mem_range]at A;obtain⟨i,E,rfl⟩:=A;exact wf_u8 (u i E).2
end Go.Proofs.YthhgkafloejjiaaGreat
namespace Go.Proofs.YthhgkafloejjiaaGreat
open Go.ChangeShapes Go.WideShapes Go.ChangeAt Go.RowKit
theorem zuX:Tryz.prog.cellsOf 41=1:=by kernel_rfl
theorem ztJ:Tryz.prog.cellsOf 44=1:=by kernel_rfl
theorem cells_Mixer:Tryz.prog.cellsOf 46=2:=by kernel_rfl
theorem zuY:Tryz.prog.cellsOf 143=2:=by kernel_rfl
theorem cells_Match:Tryz.prog.cellsOf 43=9:=by kernel_rfl
theorem cells_Slots:Tryz.prog.cellsOf 40=2:=by kernel_rfl
theorem cells_Apm:Tryz.prog.cellsOf 48=1:=by kernel_rfl
theorem cells_Part:Tryz.prog.cellsOf 50=16:=by kernel_rfl
theorem zrG:Tryz.prog.cellsOf 38=1:=by kernel_rfl
theorem ztK:Tryz.prog.cellsOf 37=1:=by kernel_rfl
theorem cells_Net:Tryz.prog.cellsOf 26=4:=by kernel_rfl
theorem cells_lc:Tryz.prog.cellsOf 22=1:=by kernel_rfl
theorem cells_lp:Tryz.prog.cellsOf 23=1:=by kernel_rfl
theorem cells_lx:Tryz.prog.cellsOf 24=1:=by kernel_rfl
theorem cells_u32:Tryz.prog.cellsOf 85=1:=by kernel_rfl
theorem wf_u32{x:Int}(h:(Lit.int .u32 x).wf=true):0≤x∧x<4294967296:=by
 have:=bounds_u32 h;omega
def Nts32(l:List Int):List Value:=l.map (.int .u32 ·)
theorem zhF{H:Type}{enc:TypeId×Value→H}{W:World}{E:Nat}{r:Value}{y:DataW H×List MemPlace}
 (G:DataW.trod enc Tryz.prog W 0 (fun _=>true) true E 41 [r]=some y) :
 ∃(a:Option Addr) (g:List Int) (k:Nat),r = .slice a g.length k∧g.length≤k∧k≤9223372036854775807∧Rd W a (zaE g)∧∀x∈g,(Lit.int .i64 x).wf=true:=by
 rcases Go.Deep.open_slice1 Tryz.underlying41 zaY G with⟨f,_⟩|⟨x,l,c,m,n,V,D,Pl,f,_,O,J,s,_,q⟩
 ·simp at f;subst f;exact⟨none,[],0,rfl,by simp,by omega,Rd.nil _ _,by simp⟩
 ·simp at f;subst f
  have F:∀i,i<l→∃z:Int,V i = .int .i64 z∧(Lit.int .i64 z).wf=true:=fun i C=>by
   obtain⟨z,u,_,K⟩:=DataW.trod_int Tryz.underlying3 (q i (by simp at s;omega)).2;simp at u;exact⟨z,u,K⟩
  obtain⟨B,t⟩:=Go.Deep.choose_lt (α:=Int) (p:=fun i z=>V i = .int .i64 z∧(Lit.int .i64 z).wf=true) F;unfold maxLen at J;simp at s;refine⟨some x,(List.range l).map B,c,by simp,by simp;omega,by omega,?_,?_⟩
  ·intro L;have N:0<l:=by
    rcases zdV l with e|e
    ·subst e;simp[zaE]at L
    ·exact e
   obtain⟨b,o,A⟩:=x;have e:=(q 0 om).1;have M:A=none:=by
    have I:W.cell? ⟨b,o,A⟩=some (V 0):=by simpa[Addr.add] using e
    exact World.cell?_spot I
   subst M;refine⟨b,o,rfl,fun j v d=> ?_⟩;simp only[zaE,List.map_map,yI]at d;have h:j<l:=by
    by_cases h:j<l
    ·exact h
    ·rw[yY by7]at d;simp at d
   rw[List.getElem?_range h]at d;simp at d;have:=(q j om).1;rw[Addr.add_mid]at this;rw[this,(t j h).1,d]
  ·intro z w;simp only[List.mem_map,List.mem_range]at w;obtain⟨i,C,rfl⟩:=w;exact(t i C).2
theorem open_ctrsCell{H:Type}{enc:TypeId×Value→H}{W:World}{I:Nat}{A:Value}{y:DataW H×List MemPlace}
 (L:DataW.trod enc Tryz.prog W 0 (fun _=>true) true I 37 [A]=some y) :
 ∃(a:Option Addr) (q:List (Int×Int)) (g:Nat),A = .slice a q.length g∧q.length≤g∧g≤9223372036854775807∧Rd W a (Cts q):=by
 rcases Go.Deep.open_slice_pairs Tryz.underlying37 Tryz.underlying143 zuY rfl rfl zaY zaY L with⟨e,_⟩|⟨x,l,c,m,n,f,F,D0,D1,P0,Z,e,_,hl,Q,C,_,u⟩
 ·simp at e;subst e;exact⟨none,[],0,rfl,by simp,by omega,Rd.nil _ _⟩
 ·simp at e;subst e;simp at C;subst C
  have J:∀i,i<l→∃z:Int×Int,f i = .int .i64 z.1∧F i = .int .i64 z.2:=fun i t=>by
   obtain⟨_,_,U,V⟩:=u i om;obtain⟨G,D,_,_⟩:=DataW.trod_int Tryz.underlying3 U;obtain⟨N,w,_,_⟩:=DataW.trod_int Tryz.underlying3 V;simp at D w;exact⟨(G,N),D,w⟩
  obtain⟨B,K⟩:=Go.Deep.choose_lt (α:=Int×Int) (p:=fun i z=>f i = .int .i64 z.1∧F i = .int .i64 z.2) J;unfold maxLen at Q;refine⟨some x,(List.range l).map B,_,by simp;rfl,by simp;omega,by omega,?_⟩;intro R;have Y:0<l:=by
   rcases zdV l with d|d
   ·subst d;simp[Cts]at R
   ·exact d
  obtain⟨b,o,E⟩:=x;have d:=(u 0 om).1;have X:E=none:=by
   have M:W.cell? ⟨b,o,E⟩=some (f 0):=by simpa[Addr.add] using d
   exact World.cell?_spot M
  subst X;refine⟨b,o,rfl,fun j v s=> ?_⟩;have aa:j<l*2:=by
   have:=(List.getElem?_eq_some_iff.1 s).1;rw[yT]at this;simpa using this
  have t:j/2<l:=by omega
  have T:j/2<((List.range l).map B).length:=by simpa using t
  obtain⟨r,h,_,_⟩:=u (j/2) om;obtain⟨O,P⟩:=K (j/2) t;have k:=zeD T;simp only[List.getElem_map,List.getElem_range]at k;rw[Addr.add_mid]at r h;rcases Nat.mod_two_eq_zero_or_one j with S|S
  ·rw[show j/2*2=j by omega]at r k;rw[s]at k;rw[r,O];exact k.1.symm
  ·rw[show j/2*2+1=j by omega]at h k;rw[s]at k;rw[h,P];exact k.2.symm
instance:Inhabited Row13:=⟨⟨none,0,[]⟩⟩
theorem mixer_cells{H:Type}{enc:TypeId×Value→H}{W:World}{m:Nat}{q s:Value}{y:DataW H×List MemPlace}(h:DataW.trod enc Tryz.prog W 0 (fun _=>true) true m 46 [q,s]=some y) :
 ∃(n:Int) (L:List (List Int)) (a:Option Addr) (u:Nat),q = .int .i64 n∧s = .slice a L.length u∧MixIs n L (.agg #[q,s]) W:=by
 obtain⟨R,z,_,_,_,K,E⟩:=DataW.trod_struct Tryz.underlying46 h
 match R,K with
 | [y0,y1],_=>
 have X:DataW.trod enc Tryz.prog W 0 (fun _=>true) true z 3 [q]=some y0:=by
  have:=E 0 _ rfl;simpa[zaY,ztJ] using this
 have Y:DataW.trod enc Tryz.prog W 0 (fun _=>true) true z 44 [s]=some y1:=by
  have:=E 1 _ rfl;simpa[zaY,ztJ] using this
 obtain⟨n,F,_,_⟩:=DataW.trod_int Tryz.underlying3 X;simp at F;subst F;refine⟨n,?_⟩;rcases Go.Deep.open_slice1 Tryz.underlying44 zuX Y with⟨g,_⟩|⟨x,l,c,m,k,V,D,Pl,g,_,hl,S,A,_,w⟩
 ·simp at g;subst g;exact⟨[],none,0,rfl,rfl,[],none,0,rfl,rfl,by simp,by omega,Rd.nil _ _,by simp⟩
 ·simp at g;subst g;simp at A;subst A
  have P:∀i,i<l→∃r:Row13,V i=r.head∧r.ok W:=fun i J=>by
   obtain⟨a,N,u,e,U,M,O,_⟩:=zhF (w i om).2;exact⟨⟨a,u,N⟩,e,U,M,O⟩
  obtain⟨B,C⟩:=Go.Deep.choose_lt (α:=Row13) (p:=fun i r=>V i=r.head∧r.ok W) P;unfold maxLen at S;refine⟨((List.range l).map B).map Row13.l,some x,m,rfl,by simp,(List.range l).map B,some x,m,rfl,by simp,by simp;omega,by omega,?_,?_⟩
  ·intro T;have aa:0<l:=by
    rcases zdV l with f|f
    ·subst f;simp at T
    ·exact f
   obtain⟨b,o,G⟩:=x;have f:=(w 0 om).1;have Z:G=none:=by
    have Q:W.cell? ⟨b,o,G⟩=some (V 0):=by simpa[Addr.add] using f
    exact World.cell?_spot Q
   subst Z;refine⟨b,o,rfl,fun j v d=> ?_⟩;simp only[List.map_map,yI]at d;have t:j<l:=by
    by_cases t:j<l
    ·exact t
    ·rw[yY by7]at d;simp at d
   rw[List.getElem?_range t]at d;simp at d;have:=(w j om).1;rw[Addr.add_mid]at this;rw[this,(C j t).1,d]
  ·intro r I;simp only[List.mem_map,List.mem_range]at I;obtain⟨i,J,rfl⟩:=I;exact(C i J).2
theorem open_u32Cell{H:Type}{enc:TypeId×Value→H}{W:World}{F:Nat}{s:Value}{y:DataW H×List MemPlace}
 (I:DataW.trod enc Tryz.prog W 0 (fun _=>true) true F 24 [s]=some y) :
 ∃(a:Option Addr) (g:List Int) (q:Nat),s = .slice a g.length q∧g.length≤q∧q≤9223372036854775807∧Rd W a (Nts32 g)∧(∀x∈g,0≤x∧x<4294967296):=by
 rcases Go.Deep.open_slice1 Tryz.underlying24 cells_u32 I with⟨f,_⟩|⟨x,l,c,m,n,V,D,Pl,f,_,P,K,t,_,r⟩
 ·simp at f;subst f;exact⟨none,[],0,rfl,by simp,by omega,Rd.nil _ _,fun _ h=>absurd h zbU⟩
 ·simp at f;subst f
  have G:∀i,i<l→∃z:Int,V i = .int .u32 z∧(Lit.int .u32 z).wf=true:=fun i E=>by
   obtain⟨z,w,_,L⟩:=DataW.trod_int Tryz.underlying85 (r i (by simp at t;omega)).2;simp at w;exact⟨z,w,L⟩
  obtain⟨B,u⟩:=Go.Deep.choose_lt (α:=Int) (p:=fun i z=>V i = .int .u32 z∧(Lit.int .u32 z).wf=true) G;unfold maxLen at K;simp at t;refine⟨some x,(List.range l).map B,c,by simp,by simp;omega,by omega,?_,?_⟩
  ·intro M;have O:0<l:=by
    rcases zdV l with e|e
    ·subst e;simp[Nts32]at M
    ·exact e
   obtain⟨b,o,C⟩:=x;have e:=(r 0 om).1;have N:C=none:=by
    have J:W.cell? ⟨b,o,C⟩=some (V 0):=by simpa[Addr.add] using e
    exact World.cell?_spot J
   subst N;refine⟨b,o,rfl,fun j v d=> ?_⟩;simp only[Nts32,List.map_map,yI]at d;have k:j<l:=by
    by_cases k:j<l
    ·exact k
    ·rw[yY by7]at d;simp at d
   rw[List.getElem?_range k]at d;simp at d;have:=(r j om).1;rw[Addr.add_mid]at this;rw[this,(u j k).1,d]
  ·intro z A;simp only[List.mem_map,List.mem_range]at A;obtain⟨i,E,rfl⟩:=A;exact wf_u32 (u i E).2
structure MRaw(m:S12.M)(p:Pl)(w:World):Prop where
 rdh:Rd w p.ah (zaE m.heads)
 rdb:Rd w p.ab (Bts m.bytes)
 rdc:Rd w p.ac (Cts m.ctrs)
 byt:S12.Byt m.bytes
 cb:m.bytes.length≤p.cb
structure PRaw(p:S14.P)(y:Lay)(w:World):Prop where
 rc:Rd w y.a1 (Cts p.ctrs)
 tab:Tab p.sd y.a2 y.c2 w
 mch:MRaw p.m y.pl w
 mix:MixIs p.mi p.mw (.agg (MixC p y).toArray) w
 apm:MapIs p.ac (.agg (ApmC p y).toArray) w
structure NRaw(N:S14.N)(L:NLay)(w:World):Prop where
 rc:Rd w L.a1 (zfG N.comps)
 rp:Rd w L.a2 (PCs N.parts L.ys)
 rx:Rd w L.a3 (zlZ N.ctxs)
 ly:L.ys.length=N.parts.length
 ps:∀(i:Nat) (p:S14.P) (y:Lay),N.parts[i]? = some p→L.ys[i]? = some y→PRaw p y w
 xs:∀x∈N.ctxs,x<4294967296
 l1:N.comps.length≤L.c1∧L.c1≤9223372036854775807
 l2:N.parts.length≤L.c2∧L.c2≤9223372036854775807
 l3:N.ctxs.length≤L.c3∧L.c3≤9223372036854775807
theorem match_cells{H:Type}{enc:TypeId×Value→H}{W:World}{m:Nat}{b:List Value}{y:DataW H×List MemPlace}(C:b.length=9)(h:DataW.trod enc Tryz.prog W 0 (fun _=>true) true m 43 b=some y) :
 ∃(x:S12.M) (q:Pl),b=yX x q∧MRaw x q W:=by
 obtain⟨P,n,_,_,_,z,a⟩:=DataW.trod_struct Tryz.underlying43 h
 match b,C,P,z with
 | [v0,v1,v2,v3,v4,v5,v6,v7,v8],_,[y0,y1,y2,y3,y4,y5,y6,y7,y8],_=>
   have f:=a 0 _ rfl;have d:=a 1 _ rfl;have s:=a 2 _ rfl;have t:=a 3 _ rfl;have k:=a 4 _ rfl;have c:=a 5 _ rfl;have p:=a 6 _ rfl;have r:=a 7 _ rfl;have l:=a 8 _ rfl;simp[zaY,zuX,zrG,ztK]at f d s t k c p r l;obtain⟨v,o,_,_⟩:=DataW.trod_int Tryz.underlying3 f;obtain⟨Q,e,_,_⟩:=DataW.trod_int Tryz.underlying3 d;obtain⟨M,N,K,L,_,_,V,_⟩:=zhF s;obtain⟨S,F,I,D,G,_,Y,R⟩:=zjN t;obtain⟨A,i,_,_⟩:=DataW.trod_int Tryz.underlying3 k;obtain⟨U,u,_,_⟩:=DataW.trod_int Tryz.underlying3 c;obtain⟨E,g,_,_⟩:=DataW.trod_int Tryz.underlying3 p;obtain⟨X,j,_,_⟩:=DataW.trod_int Tryz.underlying3 r;obtain⟨w,O,T,J,_,_,B⟩:=open_ctrsCell l;simp at o e i u g j;subst o e L D i u g j J;exact⟨⟨v,Q,N,F,A,U,E,X,O⟩,⟨M,K,S,I,w,T⟩,rfl,V,Y,B,R,G⟩
theorem part_cells{H:Type}{enc:TypeId×Value→H}{W:World}{m:Nat}{d:List Value}{y:DataW H×List MemPlace}(F:d.length=16)(h:DataW.trod enc Tryz.prog W 0 (fun _=>true) true m 50 d=some y) :
 ∃q:S14.P×Lay,d=yB q.1 q.2∧PRaw q.1 q.2 W:=by
 obtain⟨ys,n,_,_,_,B,c⟩:=DataW.trod_struct Tryz.underlying50 h
 match d,F,ys,B with
 | [v0,v1,v2,v3,v4,v5,v6,v7,v8,v9,v10,v11,v12,v13,v14,v15],_,[y0,y1,y2,y3,y4,y5],_=>
   have o:=c 0 _ rfl;have k:=c 1 _ rfl;have u:=c 2 _ rfl;have v:=c 3 _ rfl;have r:=c 4 _ rfl;have g:=c 5 _ rfl;simp[zaY,ztK,cells_Slots,cells_Match,cells_Mixer,cells_Apm]at o k u v r g;obtain⟨a0,G,J,e0,_,_,r0⟩:=open_ctrsCell o;obtain⟨i,n1,_,_,_,aa,t⟩:=DataW.trod_struct Tryz.underlying40 k;obtain⟨w0,w1,rfl⟩:∃a b,i = [a,b]:=by
    match i,aa with
    | [a,b],_=>exact⟨a,b,rfl⟩
   have w:=t 0 _ rfl;have s:=t 1 _ rfl;simp[zaY,zrG]at w s;obtain⟨z1,l,_,_⟩:=DataW.trod_int Tryz.underlying3 w;obtain⟨a2,x2,K,Z,Q,_,r2,P⟩:=zjN s;obtain⟨z3,j,_,_⟩:=DataW.trod_int Tryz.underlying3 u;obtain⟨mm,q,e,hm⟩:=match_cells rfl v;obtain⟨ae,L,S,M,A,ac,N⟩:=mixer_cells r;obtain⟨z,n2,_,_,_,ad,R⟩:=DataW.trod_struct Tryz.underlying48 g;obtain⟨u0,rfl⟩:∃a,z = [a]:=by
    match z,ad with
    | [a],_=>exact⟨a,rfl⟩
   have x:=R 0 _ rfl;simp[zuX]at x;obtain⟨p,ab,f,U,E,D,V,_⟩:=zhF x;simp at l j;unfold yX at e;simp only[List.cons.injEq,and_true]at e;obtain⟨T,X,f2,Y,I,f5,C,O,f8⟩:=e;subst e0 l Z j A ac U T X f2 Y I f5 C O f8;exact⟨(⟨G,z1,x2,z3,mm,ae,L,ab⟩,⟨a0,J,a2,K,q,S,M,p,f⟩),rfl,r0,⟨P,Q,r2⟩,hm,N,⟨p,f,rfl,E,D,V⟩⟩
instance:Inhabited S14.P:=⟨S14.P0⟩
instance:Inhabited Lay:=⟨zfF⟩
theorem open_compsCell{H:Type}{enc:TypeId×Value→H}{W:World}{E:Nat}{r:Value}{y:DataW H×List MemPlace}
 (G:DataW.trod enc Tryz.prog W 0 (fun _=>true) true E 22 [r]=some y) :
 ∃(a:Option Addr) (k:List S14.C) (h:Nat),r = .slice a k.length h∧k.length≤h∧h≤9223372036854775807∧Rd W a (zfG k):=by
 rcases Go.Deep.open_slice Tryz.underlying22 G with⟨e,_⟩|⟨x,l,c,m,n,D,Pl,e,_,Q,K,t,_,z⟩
 ·simp at e;subst e;exact⟨none,[],0,rfl,by simp,by omega,Rd.nil _ _⟩
 ·simp at e;subst e;simp at t;subst t;rw[cells_C14]at z
  have F:∀i,i<l→∃y:S14.C,∀j,j<6→W.cell? (x.add (i*6+j))=(zV y)[j]? :=fun i q=>by
   obtain⟨O,g,f⟩:=z i om;obtain⟨_,C,J⟩:=World.cells?_some g;obtain⟨y,rfl⟩:=comp_cells C f;refine⟨y,fun j M=> ?_⟩;rw[←J j M,Go.Deep.add_add]
  obtain⟨B,u⟩:=Go.Deep.choose_lt (α:=S14.C) (p:=fun i y=>∀j,j<6→W.cell? (x.add (i*6+j))=(zV y)[j]?) F;unfold maxLen at K;refine⟨some x,(List.range l).map B,m,by simp,by simp;omega,by omega,?_⟩;intro L;have A:0<l:=by
   rcases zdV l with d|d
   ·subst d;simp[zfG]at L
   ·exact d
  obtain⟨b,o,w⟩:=x;have d:=u 0 A 0 om;have N:w=none:=by
   have I:W.cell? ⟨b,o,w⟩=some (.int .i64 (B 0).kind):=by simpa[Addr.add,zV] using d
   exact World.cell?_spot I
  subst N;refine⟨b,o,rfl,fun j v s=> ?_⟩;have P:j<6*l:=by
   have:=(List.getElem?_eq_some_iff.1 s).1;rw[zaB]at this;simpa using this
  have q:j/6<l:=by omega
  have g:=u (j/6) q (j%6) om;have f:=zrL ((List.range l).map B) (i:=j/6) (j:=j%6) (x:=B (j/6)) (by simp[q]) om;rw[show 6*(j/6)+j%6=j by omega,s]at f;rw[←f,show j/6*6+j%6=j by omega,Addr.add_mid]at g;exact g
theorem open_partsCell{H:Type}{enc:TypeId×Value→H}{W:World}{L:Nat}{A:Value}{y:DataW H×List MemPlace}
 (N:DataW.trod enc Tryz.prog W 0 (fun _=>true) true L 23 [A]=some y) :
 ∃(a:Option Addr) (f:List S14.P) (w:List Lay) (s:Nat),A = .slice a f.length s∧f.length≤s∧s≤9223372036854775807∧w.length=f.length∧Rd W a (PCs f w)∧
  ∀(i:Nat) (p:S14.P) (y:Lay),f[i]? = some p→w[i]? = some y→PRaw p y W:=by
 rcases Go.Deep.open_slice Tryz.underlying23 N with⟨g,_⟩|⟨x,l,c,m,n,D,Pl,g,_,Y,R,F,_,I⟩
 ·simp at g;subst g;exact⟨none,[],[],0,rfl,by simp,by omega,rfl,Rd.nil _ _,fun i p y h=>by simp at h⟩
 ·simp at g;subst g;simp at F;subst F;rw[cells_Part]at I
  have M:∀i,i<l→∃q:S14.P×Lay,(∀j,j<16→W.cell? (x.add (i*16+j))=(yB q.1 q.2)[j]?)∧PRaw q.1 q.2 W:=fun i d=>by
   obtain⟨V,r,k⟩:=I i om;obtain⟨_,K,Q⟩:=World.cells?_some r;obtain⟨q,rfl,P⟩:=part_cells K k;refine⟨q,fun j T=> ?_,P⟩;rw[←Q j T,Go.Deep.add_add]
  obtain⟨B,u⟩:=Go.Deep.choose_lt (α:=S14.P×Lay) (p:=fun i q=>(∀j,j<16→W.cell? (x.add (i*16+j))=(yB q.1 q.2)[j]?)∧PRaw q.1 q.2 W) M;unfold maxLen at R;have z:((List.range l).map fun i=>(B i).2).length=((List.range l).map fun i=>(B i).1).length:=by simp
  refine⟨some x,(List.range l).map fun i=>(B i).1,(List.range l).map fun i=>(B i).2,m,by simp,by simp;omega,by omega,z,?_,?_⟩
  ·intro S;have J:0<l:=by
    rcases zdV l with e|e
    ·subst e;simp[PCs]at S
    ·exact e
   obtain⟨b,o,G⟩:=x;have e:=(u 0 J).1 0 om;have U:G=none:=by
    have O:W.cell? ⟨b,o,G⟩=some (.slice (B 0).2.a1 (B 0).1.ctrs.length (B 0).2.c1):=by simpa[Addr.add,yB] using e
    exact World.cell?_spot O
   subst U;refine⟨b,o,rfl,fun j v E=> ?_⟩;have X:j<16*l:=by
    have:=(List.getElem?_eq_some_iff.1 E).1;rw[zcM _ _ z]at this;simpa using this
   have d:j/16<l:=by omega
   have r:=(u (j/16) d).1 (j%16) om;have k:=PCs_at ((List.range l).map fun i=>(B i).1) ((List.range l).map fun i=>(B i).2) (i:=j/16) (j:=j%16) (p:=(B (j/16)).1) (y:=(B (j/16)).2) (by simp[d]) (by simp[d]) om;rw[show 16*(j/16)+j%16=j by omega,E]at k;rw[←k,show j/16*16+j%16=j by omega,Addr.add_mid]at r;exact r
  ·intro i p y t C;have d:i<l:=by simpa using (List.getElem?_eq_some_iff.1 t).1
   simp[d]at t C;subst t C;exact(u i d).2
theorem u32s_of{l:List Int}(h:∀x∈l,0≤x∧x<4294967296):∃b:List Nat,Nts32 l=zlZ b∧b.length=l.length∧∀x∈b,x<4294967296:=by
 induction l with
 | nil=>exact⟨[],rfl,rfl,fun x h=>absurd h zbU⟩
 | cons a l i=>
   obtain⟨b,e,f,c⟩:=i fun x c=>h x (List.mem_cons_of_mem _ c);obtain⟨n,rfl⟩:=Int.eq_ofNat_of_zero_le (h a List.mem_cons_self).1;refine⟨n::b,?_,by simp[f],fun x d=> ?_⟩
   ·show Value.int .u32 (n:Int)::Nts32 l = .int .u32 (n:Int)::zlZ b;rw[e]
   ·rcases List.mem_cons.1 d with rfl|g
    ·have:=(h _ List.mem_cons_self).2;omega
    ·exact c x g
theorem open_net{H:Type}{enc:TypeId×Value→H}{W:World}{t:Nat}{v:Value}{d:DataW H}{p:List MemPlace}(E:Value.okWide Tryz.prog W .any t 26 v)
 (h:DataW.Trod enc Tryz.prog W 0 (fun _=>true) true 26 v d p) :
 ∃(N:S14.N) (L:NLay),v=NV N L∧NRaw N L W:=by
 obtain⟨B,rfl,g⟩:=okWide_struct Tryz.underlying26 E;rw[cells_Net]at g;obtain⟨aa,G⟩:=h;obtain⟨w,k,hk,Y,_,S,a⟩:=DataW.trod_struct Tryz.underlying26 G;obtain⟨l⟩:=B
 match w,S,l,g with
 | [y0,y1,y2,y3],_,[v0,v1,v2,v3],_=>
   have f:=a 0 _ rfl;have e:=a 1 _ rfl;have i:=a 2 _ rfl;have j:=a 3 _ rfl;simp[Value.cells,zaY,cells_lc,cells_lp,cells_lx]at f e i j;obtain⟨Q,q,u,J,X,y,M⟩:=open_compsCell f;obtain⟨n,U,K,D,r,x,m1,R,V,s⟩:=open_partsCell e;obtain⟨I,Z,z,F,C,m2,m,A⟩:=open_u32Cell i;obtain⟨T,c,_,_⟩:=DataW.trod_int Tryz.underlying3 j;obtain⟨O,o,b,P⟩:=u32s_of A;simp at c;subst J r F c;rw[o]at m;rw[←b];exact⟨⟨q,U,O,T⟩,⟨Q,u,n,D,I,z,K⟩,rfl,M,V,m,R,s,P,⟨X,y⟩,⟨x,m1⟩,⟨by rw[b];exact C,m2⟩⟩
theorem NRaw.nis{N:S14.N}{L:NLay}{w:World}(h:NRaw N L w)(b:∀p∈N.parts,p.m.heads.length≤4611686018427387904∧p.m.bytes.length≤4611686018427387904∧p.m.ctrs.length≤4611686018427387904):NIs N L w:=
 ⟨h.rc,h.rp,h.rx,h.ly,fun i p y a c=>by
   have r:=h.ps i p y a c;have s:=b p (yF a);exact⟨r.rc,r.tab,⟨r.mch.rdh,r.mch.rdb,r.mch.rdc,r.mch.byt,r.mch.cb,s.1,s.2.1,s.2.2⟩,r.mix,r.apm⟩,h.xs,h.l1,h.l2,h.l3⟩
theorem NRaw.step{N:S14.N}{L:NLay}{w w':World}(h:NRaw N L w)(a:Below w w w'):NRaw N L w':=
 ⟨h.rc.step a,h.rp.step a,h.rx.step a,h.ly,fun i p y c b=>by
   have r:=h.ps i p y c b;exact⟨r.rc.step a,r.tab.step a,⟨r.mch.rdh.step a,r.mch.rdb.step a,r.mch.rdc.step a,r.mch.byt,r.mch.cb⟩,r.mix.step a,r.apm.step a⟩,h.xs,h.l1,h.l2,h.l3⟩
