/- A part of the proof of L14n. No condition. -/
import Derived.Deep.SlicePairs
import Derived.Laws.IdiomArrays
import Derived.Lib.SmallJoins
import Derived.OpenShut
import Derived.ProofKit
import Derived.Test.YtieeogndnhighaaGreatZL14nbk
set_option linter.all false
set_option maxRecDepth 100000
set_option maxHeartbeats 1000000
namespace Go.Proofs.YtieeogndnhighaaGreat
open Go.ChangeShapes Go.WideShapes Go.ChangeAt Go.RowKit
theorem lawOwn:ownKnob Tryz.prog.godebug=none:=by kernel_rfl
theorem lawLaid:laidOutB Tryz.prog=true:=by kernel_rfl
instance:Inhabited S14.C:=⟨⟨0,0,0,0,0,0⟩⟩
theorem cells_C14:Tryz.prog.cellsOf 54=6:=by kernel_rfl
theorem zaP:Tryz.prog.cellsOf 3=1:=by kernel_rfl
theorem comp_cells{H:Type}{enc:TypeId×Value→H}{W:World}{m:Nat}{cs:List Value}{y:DataW H×List MemPlace}(hlen:cs.length=6)
 (h:DataW.trod enc Tryz.prog W 0 (fun _=>true) true m 54 cs=some y):∃x:S14.C,cs=zT x:=by
 obtain⟨ys,n,_,_,_,hyl,hf⟩:=DataW.trod_struct Tryz.underlying54 h
 match cs,hlen,ys,hyl with
 | [c0,c1,c2,c3,c4,c5],_,[y0,y1,y2,y3,y4,y5],_=>
   have t0:DataW.trod enc Tryz.prog W 0 (fun _=>true) true n 3 [c0]=some y0:=by
    have:=hf 0 _ rfl;simpa[zaP] using this
   obtain⟨x0,e0,_,_⟩:=DataW.trod_int Tryz.underlying3 t0;simp at e0;subst e0;have t1:DataW.trod enc Tryz.prog W 0 (fun _=>true) true n 3 [c1]=some y1:=by
    have:=hf 1 _ rfl;simpa[zaP] using this
   obtain⟨x1,e1,_,_⟩:=DataW.trod_int Tryz.underlying3 t1;simp at e1;subst e1;have t2:DataW.trod enc Tryz.prog W 0 (fun _=>true) true n 3 [c2]=some y2:=by
    have:=hf 2 _ rfl;simpa[zaP] using this
   obtain⟨x2,e2,_,_⟩:=DataW.trod_int Tryz.underlying3 t2;simp at e2;subst e2;have t3:DataW.trod enc Tryz.prog W 0 (fun _=>true) true n 3 [c3]=some y3:=by
    have:=hf 3 _ rfl;simpa[zaP] using this
   obtain⟨x3,e3,_,_⟩:=DataW.trod_int Tryz.underlying3 t3;simp at e3;subst e3;have t4:DataW.trod enc Tryz.prog W 0 (fun _=>true) true n 3 [c4]=some y4:=by
    have:=hf 4 _ rfl;simpa[zaP] using this
   obtain⟨x4,e4,_,_⟩:=DataW.trod_int Tryz.underlying3 t4;simp at e4;subst e4;have t5:DataW.trod enc Tryz.prog W 0 (fun _=>true) true n 3 [c5]=some y5:=by
    have:=hf 5 _ rfl;simpa[zaP] using this
   obtain⟨x5,e5,_,_⟩:=DataW.trod_int Tryz.underlying3 t5;simp at e5;subst e5;exact⟨⟨x0,x1,x2,x3,x4,x5⟩,rfl⟩
theorem open_comps{H:Type}{enc:TypeId×Value→H}{W:World}{base:Nat}{v:Value}{d:DataW H}{p:List MemPlace}(hv:Value.okWide Tryz.prog W .any base 22 v)
 (h:DataW.Trod enc Tryz.prog W 0 (fun _=>true) true 22 v d p) :
 ∃(a:Option Addr) (xs:List S14.C) (cap:Nat),v = .slice a xs.length cap∧xs.length≤9223372036854775807∧Rd W a (zcS xs):=by
 obtain⟨a0,len,cap,rfl⟩:=okWide_slice Tryz.underlying22 hv;obtain⟨fuel,hf⟩:=h;rcases Go.Deep.open_slice Tryz.underlying22 hf with⟨hcs,_⟩|⟨x,l,c,m,n,D,Pl,hcs,_,hl,hm,hmm,_,hx⟩
 ·simp[Value.cells]at hcs;obtain⟨rfl,rfl,rfl⟩:=hcs;exact⟨none,[],0,rfl,by simp,Rd.nil _ _⟩
 ·simp[Value.cells]at hcs;obtain⟨rfl,rfl,rfl⟩:=hcs;simp at hmm;subst hmm;rw[cells_C14]at hx
  have hb:∀i,i<len→∃y:S14.C,∀j,j<6→W.cell? (x.add (i*6+j))=(zT y)[j]? :=fun i hi=>by
   obtain⟨cs,h1,h2⟩:=hx i (by omega);obtain⟨_,hlen,hcell⟩:=World.cells?_some h1;obtain⟨y,rfl⟩:=comp_cells hlen h2;refine⟨y,fun j hj=> ?_⟩;rw[←hcell j hj,Go.Deep.add_add]
  obtain⟨B,hB⟩:=Go.Deep.choose_lt (α:=S14.C) (p:=fun i y=>∀j,j<6→W.cell? (x.add (i*6+j))=(zT y)[j]?) hb;unfold maxLen at hm;refine⟨some x,(List.range len).map B,_,by simp;rfl,by simp;omega,?_⟩;intro hne;have hpos:0<len:=by
   rcases zbG len with h0|h0
   ·subst h0;simp[zcS]at hne
   ·exact h0
  obtain⟨b,o,sp⟩:=x;have h0:=hB 0 hpos 0 (by omega);have hsp:sp=none:=by
   have h':W.cell? ⟨b,o,sp⟩=some (.int .i64 (B 0).kind):=by simpa[Addr.add,zT] using h0
   exact World.cell?_spot h'
  subst hsp;refine⟨b,o,rfl,fun j v hv=> ?_⟩;have hjl:j<6*len:=by
   have:=(List.getElem?_eq_some_iff.1 hv).1;rw[yT]at this;simpa using this
  have hi:j/6<len:=by omega
  have h1:=hB (j/6) hi (j%6) (by omega);have h2:=zoC ((List.range len).map B) (i:=j/6) (j:=j%6) (x:=B (j/6)) (by simp[hi]) (by omega);rw[show 6*(j/6)+j%6=j by omega,hv]at h2;rw[←h2,show j/6*6+j%6=j by omega,Addr.add_mid]at h1;exact h1
end Go.Proofs.YtieeogndnhighaaGreat
namespace Go.Proofs.YtieeogndnhighaaGreat
open Go.ChangeShapes Go.WideShapes Go.ChangeAt Go.RowKit
theorem cells_u8:Tryz.prog.cellsOf 5=1:=by kernel_rfl
theorem wf_u8{x:Int}(h:(Lit.int .u8 x).wf=true):0≤x∧x<256:=by
 have:=bounds_u8 h;omega
theorem zhH{H:Type}{enc:TypeId×Value→H}{W:World}{m0:Nat}{c0:Value}{y:DataW H×List MemPlace}
 (hf:DataW.trod enc Tryz.prog W 0 (fun _=>true) true m0 59 [c0]=some y) :
 ∃(a:Option Addr) (xs:List Int) (cap:Nat),c0 = .slice a xs.length cap∧xs.length≤cap∧cap≤9223372036854775807∧Rd W a (Bts xs)∧(∀x∈xs,0≤x∧x<256):=by
 rcases Go.Deep.open_slice1 Tryz.underlying59 cells_u8 hf with⟨hcs,_⟩|⟨x,l,c,m,n,V,D,Pl,hcs,_,hl,hm,hmm,_,hx⟩
 ·simp at hcs;subst hcs;exact⟨none,[],0,rfl,by simp,by omega,Rd.nil _ _,fun _ h=>absurd h zaL⟩
 ·simp at hcs;subst hcs
  have hb:∀i,i<l→∃z:Int,V i = .int .u8 z∧(Lit.int .u8 z).wf=true:=fun i hi=>by
   obtain⟨z,e0,_,wz⟩:=DataW.trod_int Tryz.underlying5 (hx i (by simp at hmm;omega)).2;simp at e0;exact⟨z,e0,wz⟩
  obtain⟨B,hB⟩:=Go.Deep.choose_lt (α:=Int) (p:=fun i z=>V i = .int .u8 z∧(Lit.int .u8 z).wf=true) hb;unfold maxLen at hm;simp at hmm;refine⟨some x,(List.range l).map B,c,by simp,by simp;omega,by omega,?_,?_⟩
  ·intro hne;have hpos:0<l:=by
    rcases zbG l with h0|h0
    ·subst h0;simp[Bts]at hne
    ·exact h0
   obtain⟨b,o,sp⟩:=x;have h0:=(hx 0 (by omega)).1;have hsp:sp=none:=by
    have h':W.cell? ⟨b,o,sp⟩=some (V 0):=by simpa[Addr.add] using h0
    exact World.cell?_spot h'
   subst hsp;refine⟨b,o,rfl,fun j v hv=> ?_⟩;simp only[Bts,List.map_map,zaH]at hv;have hj:j<l:=by
    by_cases hj:j<l
    ·exact hj
    ·rw[yY (by simp;omega)]at hv;simp at hv
   rw[List.getElem?_range hj]at hv;simp at hv;have:=(hx j (by omega)).1;rw[Addr.add_mid]at this;rw[this,(hB j hj).1,hv]
  ·intro z hz;simp only[List.mem_map,List.mem_range]at hz;obtain⟨i,hi,rfl⟩:=hz;exact wf_u8 (hB i hi).2
end Go.Proofs.YtieeogndnhighaaGreat
namespace Go.Proofs.YtieeogndnhighaaGreat
open Go.ChangeShapes Go.WideShapes Go.ChangeAt Go.RowKit
theorem zqU:Tryz.prog.cellsOf 39=1:=by kernel_rfl
theorem zpR:Tryz.prog.cellsOf 70=1:=by kernel_rfl
theorem cells_Mixer:Tryz.prog.cellsOf 79=2:=by kernel_rfl
theorem zqV:Tryz.prog.cellsOf 170=2:=by kernel_rfl
theorem cells_Match:Tryz.prog.cellsOf 77=9:=by kernel_rfl
theorem cells_Slots:Tryz.prog.cellsOf 75=2:=by kernel_rfl
theorem cells_Apm:Tryz.prog.cellsOf 81=1:=by kernel_rfl
theorem cells_Part:Tryz.prog.cellsOf 83=16:=by kernel_rfl
theorem znY:Tryz.prog.cellsOf 59=1:=by kernel_rfl
theorem zpS:Tryz.prog.cellsOf 73=1:=by kernel_rfl
theorem cells_Net:Tryz.prog.cellsOf 26=4:=by kernel_rfl
theorem cells_lc:Tryz.prog.cellsOf 22=1:=by kernel_rfl
theorem cells_lp:Tryz.prog.cellsOf 23=1:=by kernel_rfl
theorem cells_lx:Tryz.prog.cellsOf 24=1:=by kernel_rfl
theorem cells_u32:Tryz.prog.cellsOf 109=1:=by kernel_rfl
theorem wf_u32{x:Int}(h:(Lit.int .u32 x).wf=true):0≤x∧x<4294967296:=by
 have:=bounds_u32 h;omega
def Nts32(l:List Int):List Value:=l.map (.int .u32 ·)
theorem zfI{H:Type}{enc:TypeId×Value→H}{W:World}{m0:Nat}{c0:Value}{y:DataW H×List MemPlace}
 (hf:DataW.trod enc Tryz.prog W 0 (fun _=>true) true m0 39 [c0]=some y) :
 ∃(a:Option Addr) (xs:List Int) (cap:Nat),c0 = .slice a xs.length cap∧xs.length≤cap∧cap≤9223372036854775807∧Rd W a (zaO xs)∧∀x∈xs,(Lit.int .i64 x).wf=true:=by
 rcases Go.Deep.open_slice1 Tryz.underlying39 zaP hf with⟨hcs,_⟩|⟨x,l,c,m,n,V,D,Pl,hcs,_,hl,hm,hmm,_,hx⟩
 ·simp at hcs;subst hcs;exact⟨none,[],0,rfl,by simp,by omega,Rd.nil _ _,by simp⟩
 ·simp at hcs;subst hcs
  have hb:∀i,i<l→∃z:Int,V i = .int .i64 z∧(Lit.int .i64 z).wf=true:=fun i hi=>by
   obtain⟨z,e0,_,wz⟩:=DataW.trod_int Tryz.underlying3 (hx i (by simp at hmm;omega)).2;simp at e0;exact⟨z,e0,wz⟩
  obtain⟨B,hB⟩:=Go.Deep.choose_lt (α:=Int) (p:=fun i z=>V i = .int .i64 z∧(Lit.int .i64 z).wf=true) hb;unfold maxLen at hm;simp at hmm;refine⟨some x,(List.range l).map B,c,by simp,by simp;omega,by omega,?_,?_⟩
  ·intro hne;have hpos:0<l:=by
    rcases zbG l with h0|h0
    ·subst h0;simp[zaO]at hne
    ·exact h0
   obtain⟨b,o,sp⟩:=x;have h0:=(hx 0 (by omega)).1;have hsp:sp=none:=by
    have h':W.cell? ⟨b,o,sp⟩=some (V 0):=by simpa[Addr.add] using h0
    exact World.cell?_spot h'
   subst hsp;refine⟨b,o,rfl,fun j v hv=> ?_⟩;simp only[zaO,List.map_map,zaH]at hv;have hj:j<l:=by
    by_cases hj:j<l
    ·exact hj
    ·rw[yY (by simp;omega)]at hv;simp at hv
   rw[List.getElem?_range hj]at hv;simp at hv;have:=(hx j (by omega)).1;rw[Addr.add_mid]at this;rw[this,(hB j hj).1,hv]
  ·intro z hz;simp only[List.mem_map,List.mem_range]at hz;obtain⟨i,hi,rfl⟩:=hz;exact(hB i hi).2
theorem open_ctrsCell{H:Type}{enc:TypeId×Value→H}{W:World}{m0:Nat}{c0:Value}{y:DataW H×List MemPlace}
 (hf:DataW.trod enc Tryz.prog W 0 (fun _=>true) true m0 73 [c0]=some y) :
 ∃(a:Option Addr) (xs:List (Int×Int)) (cap:Nat),c0 = .slice a xs.length cap∧xs.length≤cap∧cap≤9223372036854775807∧Rd W a (Cts xs):=by
 rcases Go.Deep.open_slice_pairs Tryz.underlying73 Tryz.underlying170 zqV rfl rfl zaP zaP hf with⟨hcs,_⟩|⟨x,l,c,m,n,V0,V1,D0,D1,P0,P1,hcs,_,hl,hm,hmm,_,hx⟩
 ·simp at hcs;subst hcs;exact⟨none,[],0,rfl,by simp,by omega,Rd.nil _ _⟩
 ·simp at hcs;subst hcs;simp at hmm;subst hmm
  have hb:∀i,i<l→∃z:Int×Int,V0 i = .int .i64 z.1∧V1 i = .int .i64 z.2:=fun i hi=>by
   obtain⟨_,_,t0,t1⟩:=hx i (by omega);obtain⟨z0,e0,_,_⟩:=DataW.trod_int Tryz.underlying3 t0;obtain⟨z1,e1,_,_⟩:=DataW.trod_int Tryz.underlying3 t1;simp at e0 e1;exact⟨(z0,z1),e0,e1⟩
  obtain⟨B,hB⟩:=Go.Deep.choose_lt (α:=Int×Int) (p:=fun i z=>V0 i = .int .i64 z.1∧V1 i = .int .i64 z.2) hb;unfold maxLen at hm;refine⟨some x,(List.range l).map B,_,by simp;rfl,by simp;omega,by omega,?_⟩;intro hne;have hpos:0<l:=by
   rcases zbG l with h0|h0
   ·subst h0;simp[Cts]at hne
   ·exact h0
  obtain⟨b,o,sp⟩:=x;have h0:=(hx 0 (by omega)).1;have hsp:sp=none:=by
   have h':W.cell? ⟨b,o,sp⟩=some (V0 0):=by simpa[Addr.add] using h0
   exact World.cell?_spot h'
  subst hsp;refine⟨b,o,rfl,fun j v hv=> ?_⟩;have hjl:j<l*2:=by
   have:=(List.getElem?_eq_some_iff.1 hv).1;rw[zcB]at this;simpa using this
  have hi:j/2<l:=by omega
  have hi2:j/2<((List.range l).map B).length:=by simpa using hi
  obtain⟨g0,g1,_,_⟩:=hx (j/2) (by omega);obtain⟨b0,b1⟩:=hB (j/2) hi;have k:=zgR hi2;simp only[List.getElem_map,List.getElem_range]at k;rw[Addr.add_mid]at g0 g1;rcases Nat.mod_two_eq_zero_or_one j with hj|hj
  ·rw[show j/2*2=j by omega]at g0 k;rw[hv]at k;rw[g0,b0];exact k.1.symm
  ·rw[show j/2*2+1=j by omega]at g1 k;rw[hv]at k;rw[g1,b1];exact k.2.symm
instance:Inhabited Row13:=⟨⟨none,0,[]⟩⟩
theorem mixer_cells{H:Type}{enc:TypeId×Value→H}{W:World}{m:Nat}{c0 c1:Value}{y:DataW H×List MemPlace}(h:DataW.trod enc Tryz.prog W 0 (fun _=>true) true m 79 [c0,c1]=some y) :
 ∃(n:Int) (L:List (List Int)) (a:Option Addr) (cap:Nat),c0 = .int .i64 n∧c1 = .slice a L.length cap∧MixIs n L (.agg #[c0,c1]) W:=by
 obtain⟨ys,n0,_,_,_,hyl,hf⟩:=DataW.trod_struct Tryz.underlying79 h
 match ys,hyl with
 | [y0,y1],_=>
 have t0:DataW.trod enc Tryz.prog W 0 (fun _=>true) true n0 3 [c0]=some y0:=by
  have:=hf 0 _ rfl;simpa[zaP,zpR] using this
 have t1:DataW.trod enc Tryz.prog W 0 (fun _=>true) true n0 70 [c1]=some y1:=by
  have:=hf 1 _ rfl;simpa[zaP,zpR] using this
 obtain⟨n,e0,_,_⟩:=DataW.trod_int Tryz.underlying3 t0;simp at e0;subst e0;refine⟨n,?_⟩;rcases Go.Deep.open_slice1 Tryz.underlying70 zqU t1 with⟨hcs,_⟩|⟨x,l,c,m,k,V,D,Pl,hcs,_,hl,hm,hmm,_,hx⟩
 ·simp at hcs;subst hcs;exact⟨[],none,0,rfl,rfl,[],none,0,rfl,rfl,by simp,by omega,Rd.nil _ _,by simp⟩
 ·simp at hcs;subst hcs;simp at hmm;subst hmm
  have hb:∀i,i<l→∃r:Row13,V i=r.head∧r.ok W:=fun i hi=>by
   obtain⟨a,xs,cap,e,h1,h2,h3,_⟩:=zfI (hx i (by omega)).2;exact⟨⟨a,cap,xs⟩,e,h1,h2,h3⟩
  obtain⟨B,hB⟩:=Go.Deep.choose_lt (α:=Row13) (p:=fun i r=>V i=r.head∧r.ok W) hb;unfold maxLen at hm;refine⟨((List.range l).map B).map Row13.l,some x,m,rfl,by simp,(List.range l).map B,some x,m,rfl,by simp,by simp;omega,by omega,?_,?_⟩
  ·intro hne;have hpos:0<l:=by
    rcases zbG l with h0|h0
    ·subst h0;simp at hne
    ·exact h0
   obtain⟨b,o,sp⟩:=x;have h0:=(hx 0 (by omega)).1;have hsp:sp=none:=by
    have h':W.cell? ⟨b,o,sp⟩=some (V 0):=by simpa[Addr.add] using h0
    exact World.cell?_spot h'
   subst hsp;refine⟨b,o,rfl,fun j v hv=> ?_⟩;simp only[List.map_map,zaH]at hv;have hj:j<l:=by
    by_cases hj:j<l
    ·exact hj
    ·rw[yY (by simp;omega)]at hv;simp at hv
   rw[List.getElem?_range hj]at hv;simp at hv;have:=(hx j (by omega)).1;rw[Addr.add_mid]at this;rw[this,(hB j hj).1,hv]
  ·intro r hr;simp only[List.mem_map,List.mem_range]at hr;obtain⟨i,hi,rfl⟩:=hr;exact(hB i hi).2
theorem open_u32Cell{H:Type}{enc:TypeId×Value→H}{W:World}{m0:Nat}{c0:Value}{y:DataW H×List MemPlace}
 (hf:DataW.trod enc Tryz.prog W 0 (fun _=>true) true m0 24 [c0]=some y) :
 ∃(a:Option Addr) (xs:List Int) (cap:Nat),c0 = .slice a xs.length cap∧xs.length≤cap∧cap≤9223372036854775807∧Rd W a (Nts32 xs)∧(∀x∈xs,0≤x∧x<4294967296):=by
 rcases Go.Deep.open_slice1 Tryz.underlying24 cells_u32 hf with⟨hcs,_⟩|⟨x,l,c,m,n,V,D,Pl,hcs,_,hl,hm,hmm,_,hx⟩
 ·simp at hcs;subst hcs;exact⟨none,[],0,rfl,by simp,by omega,Rd.nil _ _,fun _ h=>absurd h zaL⟩
 ·simp at hcs;subst hcs
  have hb:∀i,i<l→∃z:Int,V i = .int .u32 z∧(Lit.int .u32 z).wf=true:=fun i hi=>by
   obtain⟨z,e0,_,wz⟩:=DataW.trod_int Tryz.underlying109 (hx i (by simp at hmm;omega)).2;simp at e0;exact⟨z,e0,wz⟩
  obtain⟨B,hB⟩:=Go.Deep.choose_lt (α:=Int) (p:=fun i z=>V i = .int .u32 z∧(Lit.int .u32 z).wf=true) hb;unfold maxLen at hm;simp at hmm;refine⟨some x,(List.range l).map B,c,by simp,by simp;omega,by omega,?_,?_⟩
  ·intro hne;have hpos:0<l:=by
    rcases zbG l with h0|h0
    ·subst h0;simp[Nts32]at hne
    ·exact h0
   obtain⟨b,o,sp⟩:=x;have h0:=(hx 0 (by omega)).1;have hsp:sp=none:=by
    have h':W.cell? ⟨b,o,sp⟩=some (V 0):=by simpa[Addr.add] using h0
    exact World.cell?_spot h'
   subst hsp;refine⟨b,o,rfl,fun j v hv=> ?_⟩;simp only[Nts32,List.map_map,zaH]at hv;have hj:j<l:=by
    by_cases hj:j<l
    ·exact hj
    ·rw[yY (by simp;omega)]at hv;simp at hv
   rw[List.getElem?_range hj]at hv;simp at hv;have:=(hx j (by omega)).1;rw[Addr.add_mid]at this;rw[this,(hB j hj).1,hv]
  ·intro z hz;simp only[List.mem_map,List.mem_range]at hz;obtain⟨i,hi,rfl⟩:=hz;exact wf_u32 (hB i hi).2
structure MRaw(m:S12.M)(p:Pl)(w:World):Prop where
 rdh:Rd w p.ah (zaO m.heads)
 rdb:Rd w p.ab (Bts m.bytes)
 rdc:Rd w p.ac (Cts m.ctrs)
 byt:S12.Byt m.bytes
 cb:m.bytes.length≤p.cb
structure PRaw(p:S14.P)(y:Lay)(w:World):Prop where
 rc:Rd w y.a1 (Cts p.ctrs)
 tab:Tab p.sd y.a2 y.c2 w
 mch:MRaw p.m y.pl w
 mix:MixIs p.mi p.mw (.agg (MixC p y).toArray) w
 apm:MapIs p.ac (.agg (ApmC p y).toArray) w
structure NRaw(N:S14.N)(L:NLay)(w:World):Prop where
 rc:Rd w L.a1 (zcS N.comps)
 rp:Rd w L.a2 (PCs N.parts L.ys)
 rx:Rd w L.a3 (zmF N.ctxs)
 ly:L.ys.length=N.parts.length
 ps:∀(i:Nat) (p:S14.P) (y:Lay),N.parts[i]? = some p→L.ys[i]? = some y→PRaw p y w
 xs:∀x∈N.ctxs,x<4294967296
 l1:N.comps.length≤L.c1∧L.c1≤9223372036854775807
 l2:N.parts.length≤L.c2∧L.c2≤9223372036854775807
 l3:N.ctxs.length≤L.c3∧L.c3≤9223372036854775807
theorem match_cells{H:Type}{enc:TypeId×Value→H}{W:World}{m:Nat}{cs:List Value}{y:DataW H×List MemPlace}(hlen:cs.length=9)(h:DataW.trod enc Tryz.prog W 0 (fun _=>true) true m 77 cs=some y) :
 ∃(x:S12.M) (q:Pl),cs=zbQ x q∧MRaw x q W:=by
 obtain⟨ys,n,_,_,_,hyl,hg⟩:=DataW.trod_struct Tryz.underlying77 h
 match cs,hlen,ys,hyl with
 | [v0,v1,v2,v3,v4,v5,v6,v7,v8],_,[y0,y1,y2,y3,y4,y5,y6,y7,y8],_=>
   have g0:=hg 0 _ rfl;have g1:=hg 1 _ rfl;have g2:=hg 2 _ rfl;have g3:=hg 3 _ rfl;have g4:=hg 4 _ rfl;have g5:=hg 5 _ rfl;have g6:=hg 6 _ rfl;have g7:=hg 7 _ rfl;have g8:=hg 8 _ rfl;simp[zaP,zqU,znY,zpS]at g0 g1 g2 g3 g4 g5 g6 g7 g8;obtain⟨z0,e0,_,_⟩:=DataW.trod_int Tryz.underlying3 g0;obtain⟨z1,e1,_,_⟩:=DataW.trod_int Tryz.underlying3 g1;obtain⟨a2,x2,c2,e2,_,_,r2,_⟩:=zfI g2;obtain⟨a3,x3,c3,e3,l3,_,r3,b3⟩:=zhH g3;obtain⟨z4,e4,_,_⟩:=DataW.trod_int Tryz.underlying3 g4;obtain⟨z5,e5,_,_⟩:=DataW.trod_int Tryz.underlying3 g5;obtain⟨z6,e6,_,_⟩:=DataW.trod_int Tryz.underlying3 g6;obtain⟨z7,e7,_,_⟩:=DataW.trod_int Tryz.underlying3 g7;obtain⟨a8,x8,c8,e8,_,_,r8⟩:=open_ctrsCell g8;simp at e0 e1 e4 e5 e6 e7;subst e0 e1 e2 e3 e4 e5 e6 e7 e8;exact⟨⟨z0,z1,x2,x3,z4,z5,z6,z7,x8⟩,⟨a2,c2,a3,c3,a8,c8⟩,rfl,r2,r3,r8,b3,l3⟩
theorem part_cells{H:Type}{enc:TypeId×Value→H}{W:World}{m:Nat}{cs:List Value}{y:DataW H×List MemPlace}(hlen:cs.length=16)(h:DataW.trod enc Tryz.prog W 0 (fun _=>true) true m 83 cs=some y) :
 ∃q:S14.P×Lay,cs=yG q.1 q.2∧PRaw q.1 q.2 W:=by
 obtain⟨ys,n,_,_,_,hyl,hg⟩:=DataW.trod_struct Tryz.underlying83 h
 match cs,hlen,ys,hyl with
 | [v0,v1,v2,v3,v4,v5,v6,v7,v8,v9,v10,v11,v12,v13,v14,v15],_,[y0,y1,y2,y3,y4,y5],_=>
   have g0:=hg 0 _ rfl;have g1:=hg 1 _ rfl;have g2:=hg 2 _ rfl;have g3:=hg 3 _ rfl;have g4:=hg 4 _ rfl;have g5:=hg 5 _ rfl;simp[zaP,zpS,cells_Slots,cells_Match,cells_Mixer,cells_Apm]at g0 g1 g2 g3 g4 g5;obtain⟨a0,x0,c0,e0,_,_,r0⟩:=open_ctrsCell g0;obtain⟨zs,n1,_,_,_,hzl,hs⟩:=DataW.trod_struct Tryz.underlying75 g1;obtain⟨w0,w1,rfl⟩:∃a b,zs = [a,b]:=by
    match zs,hzl with
    | [a,b],_=>exact⟨a,b,rfl⟩
   have s0:=hs 0 _ rfl;have s1:=hs 1 _ rfl;simp[zaP,znY]at s0 s1;obtain⟨z1,e1,_,_⟩:=DataW.trod_int Tryz.underlying3 s0;obtain⟨a2,x2,c2,e2,l2,_,r2,b2⟩:=zhH s1;obtain⟨z3,e3,_,_⟩:=DataW.trod_int Tryz.underlying3 g2;obtain⟨mm,q,em,hm⟩:=match_cells rfl g3;obtain⟨n13,L,a14,c14,e13,e14,hmx⟩:=mixer_cells g4;obtain⟨us,n2,_,_,_,hul,hu⟩:=DataW.trod_struct Tryz.underlying81 g5;obtain⟨u0,rfl⟩:∃a,us = [a]:=by
    match us,hul with
    | [a],_=>exact⟨a,rfl⟩
   have p0:=hu 0 _ rfl;simp[zqU]at p0;obtain⟨a15,x15,c15,e15,l15,m15,r15,_⟩:=zfI p0;simp at e1 e3;unfold zbQ at em;simp only[List.cons.injEq,and_true]at em;obtain⟨f0,f1,f2,f3,f4,f5,f6,f7,f8⟩:=em;subst e0 e1 e2 e3 e13 e14 e15 f0 f1 f2 f3 f4 f5 f6 f7 f8;exact⟨(⟨x0,z1,x2,z3,mm,n13,L,x15⟩,⟨a0,c0,a2,c2,q,a14,c14,a15,c15⟩),rfl,r0,⟨b2,l2,r2⟩,hm,hmx,⟨a15,c15,rfl,l15,m15,r15⟩⟩
instance:Inhabited S14.P:=⟨S14.P0⟩
instance:Inhabited Lay:=⟨zbC⟩
theorem open_compsCell{H:Type}{enc:TypeId×Value→H}{W:World}{m0:Nat}{c0:Value}{y:DataW H×List MemPlace}
 (hf:DataW.trod enc Tryz.prog W 0 (fun _=>true) true m0 22 [c0]=some y) :
 ∃(a:Option Addr) (xs:List S14.C) (cap:Nat),c0 = .slice a xs.length cap∧xs.length≤cap∧cap≤9223372036854775807∧Rd W a (zcS xs):=by
 rcases Go.Deep.open_slice Tryz.underlying22 hf with⟨hcs,_⟩|⟨x,l,c,m,n,D,Pl,hcs,_,hl,hm,hmm,_,hx⟩
 ·simp at hcs;subst hcs;exact⟨none,[],0,rfl,by simp,by omega,Rd.nil _ _⟩
 ·simp at hcs;subst hcs;simp at hmm;subst hmm;rw[cells_C14]at hx
  have hb:∀i,i<l→∃y:S14.C,∀j,j<6→W.cell? (x.add (i*6+j))=(zT y)[j]? :=fun i hi=>by
   obtain⟨cs,h1,h2⟩:=hx i (by omega);obtain⟨_,hlen,hcell⟩:=World.cells?_some h1;obtain⟨y,rfl⟩:=comp_cells hlen h2;refine⟨y,fun j hj=> ?_⟩;rw[←hcell j hj,Go.Deep.add_add]
  obtain⟨B,hB⟩:=Go.Deep.choose_lt (α:=S14.C) (p:=fun i y=>∀j,j<6→W.cell? (x.add (i*6+j))=(zT y)[j]?) hb;unfold maxLen at hm;refine⟨some x,(List.range l).map B,m,by simp,by simp;omega,by omega,?_⟩;intro hne;have hpos:0<l:=by
   rcases zbG l with h0|h0
   ·subst h0;simp[zcS]at hne
   ·exact h0
  obtain⟨b,o,sp⟩:=x;have h0:=hB 0 hpos 0 (by omega);have hsp:sp=none:=by
   have h':W.cell? ⟨b,o,sp⟩=some (.int .i64 (B 0).kind):=by simpa[Addr.add,zT] using h0
   exact World.cell?_spot h'
  subst hsp;refine⟨b,o,rfl,fun j v hv=> ?_⟩;have hjl:j<6*l:=by
   have:=(List.getElem?_eq_some_iff.1 hv).1;rw[yT]at this;simpa using this
  have hi:j/6<l:=by omega
  have h1:=hB (j/6) hi (j%6) (by omega);have h2:=zoC ((List.range l).map B) (i:=j/6) (j:=j%6) (x:=B (j/6)) (by simp[hi]) (by omega);rw[show 6*(j/6)+j%6=j by omega,hv]at h2;rw[←h2,show j/6*6+j%6=j by omega,Addr.add_mid]at h1;exact h1
theorem open_partsCell{H:Type}{enc:TypeId×Value→H}{W:World}{m0:Nat}{c0:Value}{y:DataW H×List MemPlace}
 (hf:DataW.trod enc Tryz.prog W 0 (fun _=>true) true m0 23 [c0]=some y) :
 ∃(a:Option Addr) (ps:List S14.P) (ys:List Lay) (cap:Nat),c0 = .slice a ps.length cap∧ps.length≤cap∧cap≤9223372036854775807∧ys.length=ps.length∧Rd W a (PCs ps ys)∧
  ∀(i:Nat) (p:S14.P) (y:Lay),ps[i]? = some p→ys[i]? = some y→PRaw p y W:=by
 rcases Go.Deep.open_slice Tryz.underlying23 hf with⟨hcs,_⟩|⟨x,l,c,m,n,D,Pl,hcs,_,hl,hm,hmm,_,hx⟩
 ·simp at hcs;subst hcs;exact⟨none,[],[],0,rfl,by simp,by omega,rfl,Rd.nil _ _,fun i p y h=>by simp at h⟩
 ·simp at hcs;subst hcs;simp at hmm;subst hmm;rw[cells_Part]at hx
  have hb:∀i,i<l→∃q:S14.P×Lay,(∀j,j<16→W.cell? (x.add (i*16+j))=(yG q.1 q.2)[j]?)∧PRaw q.1 q.2 W:=fun i hi=>by
   obtain⟨cs,h1,h2⟩:=hx i (by omega);obtain⟨_,hlen,hcell⟩:=World.cells?_some h1;obtain⟨q,rfl,hq⟩:=part_cells hlen h2;refine⟨q,fun j hj=> ?_,hq⟩;rw[←hcell j hj,Go.Deep.add_add]
  obtain⟨B,hB⟩:=Go.Deep.choose_lt (α:=S14.P×Lay) (p:=fun i q=>(∀j,j<16→W.cell? (x.add (i*16+j))=(yG q.1 q.2)[j]?)∧PRaw q.1 q.2 W) hb;unfold maxLen at hm;have hyl:((List.range l).map fun i=>(B i).2).length=((List.range l).map fun i=>(B i).1).length:=by simp
  refine⟨some x,(List.range l).map fun i=>(B i).1,(List.range l).map fun i=>(B i).2,m,by simp,by simp;omega,by omega,hyl,?_,?_⟩
  ·intro hne;have hpos:0<l:=by
    rcases zbG l with h0|h0
    ·subst h0;simp[PCs]at hne
    ·exact h0
   obtain⟨b,o,sp⟩:=x;have h0:=(hB 0 hpos).1 0 (by omega);have hsp:sp=none:=by
    have h':W.cell? ⟨b,o,sp⟩=some (.slice (B 0).2.a1 (B 0).1.ctrs.length (B 0).2.c1):=by simpa[Addr.add,yG] using h0
    exact World.cell?_spot h'
   subst hsp;refine⟨b,o,rfl,fun j v hv=> ?_⟩;have hjl:j<16*l:=by
    have:=(List.getElem?_eq_some_iff.1 hv).1;rw[zcR _ _ hyl]at this;simpa using this
   have hi:j/16<l:=by omega
   have h1:=(hB (j/16) hi).1 (j%16) (by omega);have h2:=PCs_at ((List.range l).map fun i=>(B i).1) ((List.range l).map fun i=>(B i).2) (i:=j/16) (j:=j%16) (p:=(B (j/16)).1) (y:=(B (j/16)).2) (by simp[hi]) (by simp[hi]) (by omega);rw[show 16*(j/16)+j%16=j by omega,hv]at h2;rw[←h2,show j/16*16+j%16=j by omega,Addr.add_mid]at h1;exact h1
  ·intro i p y hp hy;have hi:i<l:=by simpa using (List.getElem?_eq_some_iff.1 hp).1
   simp[hi]at hp hy;subst hp hy;exact(hB i hi).2
theorem u32s_of{l:List Int}(h:∀x∈l,0≤x∧x<4294967296):∃xs:List Nat,Nts32 l=zmF xs∧xs.length=l.length∧∀x∈xs,x<4294967296:=by
 induction l with
 | nil=>exact⟨[],rfl,rfl,fun x h=>absurd h zaL⟩
 | cons a l ih=>
   obtain⟨xs,e,hl,hx⟩:=ih fun x hx=>h x (List.mem_cons_of_mem _ hx);obtain⟨n,rfl⟩:=Int.eq_ofNat_of_zero_le (h a List.mem_cons_self).1;refine⟨n::xs,?_,by simp[hl],fun x hx'=> ?_⟩
   ·show Value.int .u32 (n:Int)::Nts32 l = .int .u32 (n:Int)::zmF xs;rw[e]
   ·rcases List.mem_cons.1 hx' with rfl|h'
    ·have:=(h _ List.mem_cons_self).2;omega
    ·exact hx x h'
theorem open_net{H:Type}{enc:TypeId×Value→H}{W:World}{base:Nat}{v:Value}{d:DataW H}{p:List MemPlace}(hv:Value.okWide Tryz.prog W .any base 26 v)
 (h:DataW.Trod enc Tryz.prog W 0 (fun _=>true) true 26 v d p) :
 ∃(N:S14.N) (L:NLay),v=NV N L∧NRaw N L W:=by
 obtain⟨cs,rfl,hsz⟩:=okWide_struct Tryz.underlying26 hv;rw[cells_Net]at hsz;obtain⟨fuel,hf⟩:=h;obtain⟨xs,k,hk,hxy,_,hxl,hg⟩:=DataW.trod_struct Tryz.underlying26 hf;obtain⟨l⟩:=cs
 match xs,hxl,l,hsz with
 | [y0,y1,y2,y3],_,[v0,v1,v2,v3],_=>
   have g0:=hg 0 _ rfl;have g1:=hg 1 _ rfl;have g2:=hg 2 _ rfl;have g3:=hg 3 _ rfl;simp[Value.cells,zaP,cells_lc,cells_lp,cells_lx]at g0 g1 g2 g3;obtain⟨a0,x0,c0,e0,l0,m0,r0⟩:=open_compsCell g0;obtain⟨a1,x1,ys,c1,e1,l1,m1,ly,r1,ps⟩:=open_partsCell g1;obtain⟨a2,x2,c2,e2,l2,m2,r2,b2⟩:=open_u32Cell g2;obtain⟨z3,e3,_,_⟩:=DataW.trod_int Tryz.underlying3 g3;obtain⟨ns,en,ln,hn⟩:=u32s_of b2;simp at e3;subst e0 e1 e2 e3;rw[en]at r2;rw[←ln];exact⟨⟨x0,x1,ns,z3⟩,⟨a0,c0,a1,c1,a2,c2,ys⟩,rfl,r0,r1,r2,ly,ps,hn,⟨l0,m0⟩,⟨l1,m1⟩,⟨by rw[ln];exact l2,m2⟩⟩
theorem NRaw.nis{N:S14.N}{L:NLay}{w:World}(h:NRaw N L w)(hs:∀p∈N.parts,p.m.heads.length≤4611686018427387904∧p.m.bytes.length≤4611686018427387904∧p.m.ctrs.length≤4611686018427387904):NIs N L w:=
 ⟨h.rc,h.rp,h.rx,h.ly,fun i p y hp hy=>by
   have r:=h.ps i p y hp hy;have s:=hs p (yN hp);exact⟨r.rc,r.tab,⟨r.mch.rdh,r.mch.rdb,r.mch.rdc,r.mch.byt,r.mch.cb,s.1,s.2.1,s.2.2⟩,r.mix,r.apm⟩,h.xs,h.l1,h.l2,h.l3⟩
theorem NRaw.step{N:S14.N}{L:NLay}{w w':World}(h:NRaw N L w)(hb:Below w.heap.size w w'):NRaw N L w':=
 ⟨h.rc.step hb,h.rp.step hb,h.rx.step hb,h.ly,fun i p y h1 h2=>by
   have r:=h.ps i p y h1 h2;exact⟨r.rc.step hb,r.tab.step hb,⟨r.mch.rdh.step hb,r.mch.rdb.step hb,r.mch.rdc.step hb,r.mch.byt,r.mch.cb⟩,r.mix.step hb,r.apm.step hb⟩,h.xs,h.l1,h.l2,h.l3⟩
