/- A part of the proof of L14l. No condition. -/
import Derived.Test.YthhgkafloejjiaaGreatZL14law
import Derived.Test.YthhgkafloejjiaaGreatZL14lay
import Derived.Test.YthhgkafloejjiaaGreatZL14lbf
import Derived.Test.YthhgkafloejjiaaGreatZL14lbg
set_option linter.all false
set_option maxRecDepth 100000
set_option maxHeartbeats 20000000
namespace Go.Proofs.YthhgkafloejjiaaGreat
open Go.RowKit
structure S14.P where
 ctrs:List (Int×Int)
 sb:Int
 sd:List Int
 slot:Int
 m:S12.M
 mi:Int
 mw:List (List Int)
 ac:List Int
structure Lay where
 a1:Option Addr
 c1:Nat
 a2:Option Addr
 c2:Nat
 pl:Pl
 a3:Option Addr
 c3:Nat
 a4:Option Addr
 c4:Nat
def SlotC(p:S14.P)(y:Lay):List Value:=[.int .i64 p.sb,.slice y.a2 p.sd.length y.c2]
def MixC(p:S14.P)(y:Lay):List Value:=[.int .i64 p.mi,.slice y.a3 p.mw.length y.c3]
def ApmC(p:S14.P)(y:Lay):List Value:=[.slice y.a4 p.ac.length y.c4]
def yB(p:S14.P)(y:Lay):List Value:=
 [.slice y.a1 p.ctrs.length y.c1,p.sb,.slice y.a2 p.sd.length y.c2,p.slot,p.m.bits,p.m.least,.slice y.pl.ah p.m.heads.length y.pl.ch,.slice y.pl.ab p.m.bytes.length y.pl.cb,p.m.at_,p.m.len,p.m.part,p.m.bit,.slice y.pl.ac p.m.ctrs.length y.pl.cc,
  .int .i64 p.mi,.slice y.a3 p.mw.length y.c3,.slice y.a4 p.ac.length y.c4]
def PV(p:S14.P)(y:Lay):Value:=.agg (yB p y).toArray
structure PIs(p:S14.P)(y:Lay)(w:World):Prop where
 rc:Rd w y.a1 (Cts p.ctrs)
 tab:Tab p.sd y.a2 y.c2 w
 mch:MIs p.m y.pl w
 mix:MixIs p.mi p.mw (.agg (MixC p y).toArray) w
 apm:MapIs p.ac (.agg (ApmC p y).toArray) w
theorem PIs.step{p:S14.P}{y:Lay}{w w':World}(h:PIs p y w)(a:Below w w w'):PIs p y w':=
 ⟨h.rc.step a,h.tab.step a,h.mch.step a,h.mix.step a,h.apm.step a⟩
theorem zaU(p:S14.P)(y:Lay):(yB p y).length=16:=rfl
theorem zbC(p:S14.P)(y:Lay):∀v∈yB p y,v.oneCell'=true:=by
 intro v a;simp only[yB,List.mem_cons,zbU,or_false]at a;rcases a with rfl|rfl|rfl|rfl|rfl|rfl|rfl|rfl|rfl|rfl|rfl|rfl|rfl|rfl|rfl|rfl<;>rfl
def S14.P0:S14.P:=⟨[],0,[],0,⟨0,0,[],[],0,0,0,0,[]⟩,0,[],[]⟩
def zfF:Lay:=⟨none,0,none,0,⟨none,0,none,0,none,0⟩,none,0,none,0⟩
theorem PIs.zero(w:World):PIs S14.P0 zfF w:=
 ⟨Rd.nil _ _,⟨(fun x a=>(by cases a)),zF _,Rd.nil _ _⟩,⟨Rd.nil _ _,Rd.nil _ _,Rd.nil _ _,(fun x a=>(by cases a)),zF _,by decide,by decide,by decide⟩,
   ⟨[],none,0,rfl,rfl,zF _,by decide,Rd.nil _ _,(fun r b=>(by cases b))⟩,⟨none,0,rfl,zF _,by decide,Rd.nil _ _⟩⟩
structure S14.N where
 comps:List S14.C
 parts:List S14.P
 ctxs:List Nat
 part:Int
structure NLay where
 a1:Option Addr
 c1:Nat
 a2:Option Addr
 c2:Nat
 a3:Option Addr
 c3:Nat
 ys:List Lay
def zlZ(l:List Nat):List Value:=l.map fun(x:Nat)=>.int .u32 (x:Int)
theorem zbT(l:List Nat):(zlZ l).length=l.length:=by simp[zlZ]
def PCs:List S14.P→List Lay→List Value
 | p::ps,y::ys=>yB p y++PCs ps ys
 | _,_=>[]
def zaN(N:S14.N)(L:NLay):List Value:=[.slice L.a1 N.comps.length L.c1,.slice L.a2 N.parts.length L.c2,.slice L.a3 N.ctxs.length L.c3,.int .i64 N.part]
def NV(N:S14.N)(L:NLay):Value:=.agg (zaN N L).toArray
structure NIs(N:S14.N)(L:NLay)(w:World):Prop where
 rc:Rd w L.a1 (zfG N.comps)
 rp:Rd w L.a2 (PCs N.parts L.ys)
 rx:Rd w L.a3 (zlZ N.ctxs)
 ly:L.ys.length=N.parts.length
 ps:∀(i:Nat) (p:S14.P) (y:Lay),N.parts[i]? = some p→L.ys[i]? = some y→PIs p y w
 xs:∀x∈N.ctxs,x<4294967296
 l1:N.comps.length≤L.c1∧L.c1≤9223372036854775807
 l2:N.parts.length≤L.c2∧L.c2≤9223372036854775807
 l3:N.ctxs.length≤L.c3∧L.c3≤9223372036854775807
theorem NIs.step{N:S14.N}{L:NLay}{w w':World}(h:NIs N L w)(a:Below w w w'):NIs N L w':=
 ⟨h.rc.step a,h.rp.step a,h.rx.step a,h.ly,fun i p y b c=>(h.ps i p y b c).step a,h.xs,h.l1,h.l2,h.l3⟩
theorem zcM:∀(a:List S14.P) (b:List Lay),b.length=a.length→(PCs a b).length=16*a.length
 | [],[],_=>rfl
 | p::a,y::b,h=>by
   have:=zcM a b (by simpa using h);simp only[PCs,zaG,zaU,zbL,this];omega
theorem PCs_at:∀(a:List S14.P) (b:List Lay) {i j:Nat} {p:S14.P} {y:Lay},a[i]? = some p→b[i]? = some y→j<16→(PCs a b)[16*i+j]? = (yB p y)[j]?
 | [],_,i,j,p,y,h,_,_=>by simp at h
 | _::_,[],i,j,p,y,_,h,_=>by simp at h
 | q::a,z::b,0,j,p,y,h1,h2,hj=>by
   obtain rfl:q=p:=by simpa using h1
   obtain rfl:z=y:=by simpa using h2
   show(yB q z++PCs a b)[16*0+j]? = _;rw[Nat.mul_zero,yE,zbH (by rw[zaU];exact hj)]
 | q::a,z::b,i+1,j,p,y,h1,h2,hj=>by
   show(yB q z++PCs a b)[16*(i+1)+j]? = _;rw[yK (by rw[zaU];omega),zaU,show 16*(i+1)+j-16=16*i+j by omega];exact PCs_at a b (by simpa using h1) (by simpa using h2) hj
theorem NIs.part_at{N:S14.N}{L:NLay}{w:World}(h:NIs N L w){k:Nat}(f:k<N.parts.length):∃b o p y,L.a2=some ⟨b,o,none⟩∧N.parts[k]? = some p∧L.ys[k]? = some y∧w.rangeAt b (o+k*16) (yB p y)∧PIs p y w:=by
 obtain⟨p,c⟩:∃p,N.parts[k]? = some p:=⟨_,zD f⟩;obtain⟨y,a⟩:∃y,L.ys[k]? = some y:=⟨_,zD (by rw[h.ly];exact f)⟩;obtain⟨b,o,e,l⟩:=h.rp (fun e=>by have g:=yG List.length e;rw[zcM _ _ h.ly]at g;simp at g;omega);refine⟨b,o,p,y,e,c,a,fun j v d=> ?_,h.ps k p y c a⟩;have i:j<16:=by have:=(List.getElem?_eq_some_iff.1 d).1;rwa[zaU]at this
 have:=l (16*k+j) v ((PCs_at _ _ c a i).trans d);rw[show o+(16*k+j)=o+k*16+j by omega]at this;exact this
theorem NIs.comp_at{N:S14.N}{L:NLay}{w:World}(h:NIs N L w){k:Nat}{c:S14.C}(d:N.comps[k]? = some c):∃b o,L.a1=some ⟨b,o,none⟩∧Elem14 w b (o+k*6) c:=by
 have g:=(List.getElem?_eq_some_iff.1 d).1;obtain⟨b,o,e,f⟩:=h.rc (fun e=>by have a:=yG List.length e;rw[zaB]at a;simp at a;omega);exact⟨b,o,e,zoF f d⟩
theorem NIs.ctx_at{N:S14.N}{L:NLay}{w:World}(h:NIs N L w){k:Nat}(a:k<N.ctxs.length):∃b o,L.a3=some ⟨b,o,none⟩∧w.cell? ⟨b,o+k,none⟩=some (.int .u32 (N.ctxs.getD k 0:Nat))∧N.ctxs.getD k 0<4294967296:=by
 obtain⟨b,o,e,c⟩:=h.rx.at (i:=k) (by rw[zbT];exact a);refine⟨b,o,e,?_,?_⟩
 ·rw[c k (by rw[zbT];exact a),zK,zD a];simp[zlZ]
 ·rw[zK,zD a];exact h.xs _ (yR a)
def S14.N0:S14.N:=⟨[],[],[],0⟩
def NLay0:NLay:=⟨none,0,none,0,none,0,[]⟩
theorem NIs.zero(w:World):NIs S14.N0 NLay0 w:=
 ⟨Rd.nil _ _,Rd.nil _ _,Rd.nil _ _,rfl,(fun i p y h=>(by simp[S14.N0]at h)),(fun x a=>(by cases a)),⟨zF _,by decide⟩,⟨zF _,by decide⟩,⟨zF _,by decide⟩⟩
def zP:Array Value:=(yB S14.P0 zfF).toArray
theorem zeroP_run(w:World):(zeroValue 50).run Tryz.prog w = .ok (.agg zP) w:=by
 have h:(Tryz.prog.info? 50).bind (·.zero)=some (.agg zP):=by kernel_rfl
 obtain⟨i,a⟩:∃i,Tryz.prog.info? 50=some i:=by
  cases hh:Tryz.prog.info? 50 with
  | none=>rw[hh]at h;cases h
  | some i=>exact⟨i,rfl⟩
 rw[a]at h;have b:i.zero=some (.agg zP):=h;unfold zeroValue typeInfo;simp[go_sem,a,b]
theorem zdF(w:World):(Instr.alloc 50 true (.tuple #[])).run Tryz.prog w = .ok (.pointer (some ⟨w,0,none⟩)) (w.alloc (.cells zP 50)):=by
 have a:=zeroP_run w;unfold Instr.alloc;simp[a,go_sem]
theorem info_P:(Tryz.prog.info? 50).map (·.size)=some 16:=by kernel_rfl
theorem zfH(w:World):Blk (w.alloc (.cells zP 50)) w.heap.size (yB S14.P0 zfF) 50:=Blk.new w _ _
attribute [irreducible] zP
theorem results_cell{P:Program}{c:Func}{b:Array Value}{a:Nat}{t:TypeId}{p:Addr}{v:Value}{w:World}(h:c.results = #[.cell a t])(d:b.getD a undef = .pointer (some p))
 (g:(loadVar t p).run P w = .ok v w):(results c b).run P w = .ok v w:=by
 have f:(asAddr (.pointer (some p))).run P w = .ok p w:=by simp[asAddr,go_sem]
 have e:b[a]?.getD undef = .pointer (some p):=by simpa using d
 unfold results;rw[h];simp[e,f,g]
theorem ztV{P:Program}{d:Func}{c:Array Value}{a b:Nat}{t:TypeId}{p:Addr}{v u:Value}{w:World}(k:d.results = #[.cell a t,.tmp b])(e:c.getD a undef = .pointer (some p))(h:c.getD b undef=u)
 (i:(loadVar t p).run P w = .ok v w):(results d c).run P w = .ok (.tuple #[v,u]) w:=by
 have g:(asAddr (.pointer (some p))).run P w = .ok p w:=by simp[asAddr,go_sem]
 have f:c[a]?.getD undef = .pointer (some p):=by simpa using e
 have j:c[b]?.getD undef=u:=by simpa using h
 unfold results;rw[k];simp[f,j,g,i]
theorem wpPlan_storeBl{P:Program}{Y:Array Value→Nat→Option Bool}{Q:Exit→Act→World→Prop}{S:World→Prop}{G:Act→World→Prop}{w:World}{f:Plan Oper}{o:Oper}{a:Act}(T:TypeId)(x y:Operand)(j:o.op = .store T x y)(q:Region.wanted o (Y a.tmps)=true)
 (b:Nat) (k:a.eval x = .pointer (some ⟨b,0,none⟩)) (c:List Value) (i:a.eval y = .agg c.toArray) (e:List Value) (t:TypeId) (g:Blk w b e t) (m:(P.info? T).map (·.size)=some c.length) (n:e.length=c.length)
 (l:∀v∈c,v.oneCell'=true) (h:∀d,Blk d b c t→w.grownBy d (some b)→d.heap.size=w.heap.size→S d∧zaI P Y Q S G f (a.put o.dst undef) d):zaI P Y Q S G (.one o f) a w:=by
 obtain⟨p,r⟩:=zmA g c.toArray;unfold zaI;rw[zQ q];refine .inl (wp_store_row T x y j b c.toArray k i t e.toArray g (by simpa using m) (by simpa using n) (all_oneCell_toArray l) (h _ ?_ r ?_))
 ·simpa using p
 ·simp[World.setRow]
section
variable {fn:Func} {R:Ending→World→Prop} {c a:Act} {w:World} {i j:Nat} {T:TypeId} {p:Addr} {v u:Value} {ops:Array Oper} {Q:Exit→Act→World→Prop} {o:Oper} {rest:List Oper} {b:Nat} {cs old:List Value} {t:TypeId}
theorem rL1(h:(loadVar T p).run Tryz.prog w = .ok v w)(k:R (.returned v) w)(d:fn.results = #[.cell i T]:=by rfl)(a:c.tmps.getD i undef = .pointer (some p):=by rfl)(b:c.defers = []:=by rfl):bodyPost Tryz.prog fn R .ret c w:=bodyPost_ret (results_cell d a h) b k
theorem rL2(h:(loadVar T p).run Tryz.prog w = .ok v w)(k:R (.returned (.tuple #[v,u])) w)(e:fn.results = #[.cell i T,.tmp j]:=by rfl)(a:c.tmps.getD i undef = .pointer (some p):=by rfl)(b:c.tmps.getD j undef=u:=by conv=>{lhs;whnf})(d:c.defers = []:=by rfl):bodyPost Tryz.prog fn R .ret c w:=bodyPost_ret (ztV e a b h) d k
theorem if26:(Tryz.prog.info? 26).map (·.size)=some 4:=by kernel_rfl
theorem ld26(x:Operand)(k:Blk w b cs t)(h:wpList Tryz.prog ops Q rest (a.put o.dst (.agg cs.toArray)) w)(f:some 4=some cs.length:=by rfl)(e:o.guard=none:=by rfl)(c:o.op = .load 26 x:=by rfl)(d:a.eval x = .pointer (some ⟨b,0,none⟩):=by rfl):wpList Tryz.prog ops Q (o::rest) a w:=zcS 26 x e c b d cs t k _ Tryz.underlying26 rfl (if26.trans f) h
theorem st26(x y:Operand)(c:List Value)(k:Blk w b old t)(h:∀d,Blk d b c t→w.grownBy d (some b)→d.heap.size=w.heap.size→wpList Tryz.prog ops Q rest (a.put o.dst undef) d)(m:some 4=some c.length:=by rfl)(l:old.length=c.length:=by rfl)(i:∀v∈c,v.oneCell'=true:=by simp[Value.oneCell'])(j:o.guard=none:=by rfl)(f:o.op = .store 26 x y:=by rfl)(g:a.eval x = .pointer (some ⟨b,0,none⟩):=by rfl)(e:a.eval y = .agg c.toArray:=by rfl):wpList Tryz.prog ops Q (o::rest) a w:=zfJ 26 x y j f b g c e old t k (if26.trans m) l i h
theorem ps26{Y:Array Value→Nat→Option Bool}{S:World→Prop}{G:Act→World→Prop}{e:Plan Oper}(x y:Operand)(c:List Value)(k:Blk w b old t)(h:∀d,Blk d b c t→w.grownBy d (some b)→d.heap.size=w.heap.size→S d∧zaI Tryz.prog Y Q S G e (a.put o.dst undef) d)(m:some 4=some c.length:=by rfl)(l:old.length=c.length:=by rfl)(j:∀v∈c,v.oneCell'=true:=by simp[Value.oneCell'])(g:o.op = .store 26 x y:=by rfl)(n:Region.wanted o (Y a.tmps)=true:=by rw[hY];rfl)(i:a.eval x = .pointer (some ⟨b,0,none⟩):=by rfl)(f:a.eval y = .agg c.toArray:=by rfl):zaI Tryz.prog Y Q S G (.one o e) a w:=wpPlan_storeBl 26 x y g n b i c f old t k (if26.trans m) l j h
theorem lv26(k:Blk w b cs t)(a:some 4=some cs.length:=by rfl):(loadVar 26 ⟨b,0,none⟩).run Tryz.prog w = .ok (.agg cs.toArray) w:=run_loadVar_mid w b 0 _ cs _ k.cells Tryz.underlying26 rfl (if26.trans a)
theorem if50:(Tryz.prog.info? 50).map (·.size)=some 16:=by kernel_rfl
theorem ld50(x:Operand)(k:Blk w b cs t)(h:wpList Tryz.prog ops Q rest (a.put o.dst (.agg cs.toArray)) w)(f:some 16=some cs.length:=by rfl)(e:o.guard=none:=by rfl)(c:o.op = .load 50 x:=by rfl)(d:a.eval x = .pointer (some ⟨b,0,none⟩):=by rfl):wpList Tryz.prog ops Q (o::rest) a w:=zcS 50 x e c b d cs t k _ Tryz.underlying50 rfl (if50.trans f) h
theorem st50(x y:Operand)(c:List Value)(k:Blk w b old t)(h:∀d,Blk d b c t→w.grownBy d (some b)→d.heap.size=w.heap.size→wpList Tryz.prog ops Q rest (a.put o.dst undef) d)(m:some 16=some c.length:=by rfl)(l:old.length=c.length:=by rfl)(i:∀v∈c,v.oneCell'=true:=by exact zbC _ _)(j:o.guard=none:=by rfl)(f:o.op = .store 50 x y:=by rfl)(g:a.eval x = .pointer (some ⟨b,0,none⟩):=by rfl)(e:a.eval y = .agg c.toArray:=by rfl):wpList Tryz.prog ops Q (o::rest) a w:=zfJ 50 x y j f b g c e old t k (if50.trans m) l i h
theorem ps50{Y:Array Value→Nat→Option Bool}{S:World→Prop}{G:Act→World→Prop}{e:Plan Oper}(x y:Operand)(c:List Value)(k:Blk w b old t)(h:∀d,Blk d b c t→w.grownBy d (some b)→d.heap.size=w.heap.size→S d∧zaI Tryz.prog Y Q S G e (a.put o.dst undef) d)(m:some 16=some c.length:=by rfl)(l:old.length=c.length:=by rfl)(j:∀v∈c,v.oneCell'=true:=by exact zbC _ _)(g:o.op = .store 50 x y:=by rfl)(n:Region.wanted o (Y a.tmps)=true:=by rw[hY];rfl)(i:a.eval x = .pointer (some ⟨b,0,none⟩):=by rfl)(f:a.eval y = .agg c.toArray:=by rfl):zaI Tryz.prog Y Q S G (.one o e) a w:=wpPlan_storeBl 50 x y g n b i c f old t k (if50.trans m) l j h
theorem lv50(k:Blk w b cs t)(a:some 16=some cs.length:=by rfl):(loadVar 50 ⟨b,0,none⟩).run Tryz.prog w = .ok (.agg cs.toArray) w:=run_loadVar_mid w b 0 _ cs _ k.cells Tryz.underlying50 rfl (if50.trans a)
theorem if68:(Tryz.prog.info? 68).map (·.size)=some 6:=by kernel_rfl
theorem ld68(x:Operand)(k:Blk w b cs t)(h:wpList Tryz.prog ops Q rest (a.put o.dst (.agg cs.toArray)) w)(f:some 6=some cs.length:=by rfl)(e:o.guard=none:=by rfl)(c:o.op = .load 68 x:=by rfl)(d:a.eval x = .pointer (some ⟨b,0,none⟩):=by rfl):wpList Tryz.prog ops Q (o::rest) a w:=zcS 68 x e c b d cs t k _ Tryz.underlying68 rfl (if68.trans f) h
theorem if56:(Tryz.prog.info? 56).map (·.size)=some 6:=by kernel_rfl
theorem ld56(x:Operand)(k:Blk w b cs t)(h:wpList Tryz.prog ops Q rest (a.put o.dst (.agg cs.toArray)) w)(f:some 6=some cs.length:=by rfl)(e:o.guard=none:=by rfl)(c:o.op = .load 56 x:=by rfl)(d:a.eval x = .pointer (some ⟨b,0,none⟩):=by rfl):wpList Tryz.prog ops Q (o::rest) a w:=zcS 56 x e c b d cs t k _ Tryz.underlying56 rfl (if56.trans f) h
theorem st56(x y:Operand)(c:List Value)(k:Blk w b old t)(h:∀d,Blk d b c t→w.grownBy d (some b)→d.heap.size=w.heap.size→wpList Tryz.prog ops Q rest (a.put o.dst undef) d)(m:some 6=some c.length:=by rfl)(l:old.length=c.length:=by rfl)(i:∀v∈c,v.oneCell'=true:=by simp[Value.oneCell'])(j:o.guard=none:=by rfl)(f:o.op = .store 56 x y:=by rfl)(g:a.eval x = .pointer (some ⟨b,0,none⟩):=by rfl)(e:a.eval y = .agg c.toArray:=by rfl):wpList Tryz.prog ops Q (o::rest) a w:=zfJ 56 x y j f b g c e old t k (if56.trans m) l i h
theorem ps56{Y:Array Value→Nat→Option Bool}{S:World→Prop}{G:Act→World→Prop}{e:Plan Oper}(x y:Operand)(c:List Value)(k:Blk w b old t)(h:∀d,Blk d b c t→w.grownBy d (some b)→d.heap.size=w.heap.size→S d∧zaI Tryz.prog Y Q S G e (a.put o.dst undef) d)(m:some 6=some c.length:=by rfl)(l:old.length=c.length:=by rfl)(j:∀v∈c,v.oneCell'=true:=by simp[Value.oneCell'])(g:o.op = .store 56 x y:=by rfl)(n:Region.wanted o (Y a.tmps)=true:=by rw[hY];rfl)(i:a.eval x = .pointer (some ⟨b,0,none⟩):=by rfl)(f:a.eval y = .agg c.toArray:=by rfl):zaI Tryz.prog Y Q S G (.one o e) a w:=wpPlan_storeBl 56 x y g n b i c f old t k (if56.trans m) l j h
theorem if43:(Tryz.prog.info? 43).map (·.size)=some 9:=by kernel_rfl
theorem ld43(x:Operand)(k:Blk w b cs t)(h:wpList Tryz.prog ops Q rest (a.put o.dst (.agg cs.toArray)) w)(f:some 9=some cs.length:=by rfl)(e:o.guard=none:=by rfl)(c:o.op = .load 43 x:=by rfl)(d:a.eval x = .pointer (some ⟨b,0,none⟩):=by rfl):wpList Tryz.prog ops Q (o::rest) a w:=zcS 43 x e c b d cs t k _ Tryz.underlying43 rfl (if43.trans f) h
theorem st43(x y:Operand)(c:List Value)(k:Blk w b old t)(h:∀d,Blk d b c t→w.grownBy d (some b)→d.heap.size=w.heap.size→wpList Tryz.prog ops Q rest (a.put o.dst undef) d)(m:some 9=some c.length:=by rfl)(l:old.length=c.length:=by rfl)(i:∀v∈c,v.oneCell'=true:=by simp[Value.oneCell'])(j:o.guard=none:=by rfl)(f:o.op = .store 43 x y:=by rfl)(g:a.eval x = .pointer (some ⟨b,0,none⟩):=by rfl)(e:a.eval y = .agg c.toArray:=by rfl):wpList Tryz.prog ops Q (o::rest) a w:=zfJ 43 x y j f b g c e old t k (if43.trans m) l i h
theorem lv43(k:Blk w b cs t)(a:some 9=some cs.length:=by rfl):(loadVar 43 ⟨b,0,none⟩).run Tryz.prog w = .ok (.agg cs.toArray) w:=run_loadVar_mid w b 0 _ cs _ k.cells Tryz.underlying43 rfl (if43.trans a)
theorem if46:(Tryz.prog.info? 46).map (·.size)=some 2:=by kernel_rfl
theorem ld46(x:Operand)(k:Blk w b cs t)(h:wpList Tryz.prog ops Q rest (a.put o.dst (.agg cs.toArray)) w)(f:some 2=some cs.length:=by rfl)(e:o.guard=none:=by rfl)(c:o.op = .load 46 x:=by rfl)(d:a.eval x = .pointer (some ⟨b,0,none⟩):=by rfl):wpList Tryz.prog ops Q (o::rest) a w:=zcS 46 x e c b d cs t k _ Tryz.underlying46 rfl (if46.trans f) h
theorem ps46{Y:Array Value→Nat→Option Bool}{S:World→Prop}{G:Act→World→Prop}{e:Plan Oper}(x y:Operand)(c:List Value)(k:Blk w b old t)(h:∀d,Blk d b c t→w.grownBy d (some b)→d.heap.size=w.heap.size→S d∧zaI Tryz.prog Y Q S G e (a.put o.dst undef) d)(m:some 2=some c.length:=by rfl)(l:old.length=c.length:=by rfl)(j:∀v∈c,v.oneCell'=true:=by simp[Value.oneCell'])(g:o.op = .store 46 x y:=by rfl)(n:Region.wanted o (Y a.tmps)=true:=by rw[hY];rfl)(i:a.eval x = .pointer (some ⟨b,0,none⟩):=by rfl)(f:a.eval y = .agg c.toArray:=by rfl):zaI Tryz.prog Y Q S G (.one o e) a w:=wpPlan_storeBl 46 x y g n b i c f old t k (if46.trans m) l j h
theorem if48:(Tryz.prog.info? 48).map (·.size)=some 1:=by kernel_rfl
theorem ld48(x:Operand)(k:Blk w b cs t)(h:wpList Tryz.prog ops Q rest (a.put o.dst (.agg cs.toArray)) w)(f:some 1=some cs.length:=by rfl)(e:o.guard=none:=by rfl)(c:o.op = .load 48 x:=by rfl)(d:a.eval x = .pointer (some ⟨b,0,none⟩):=by rfl):wpList Tryz.prog ops Q (o::rest) a w:=zcS 48 x e c b d cs t k _ Tryz.underlying48 rfl (if48.trans f) h
theorem ps48{Y:Array Value→Nat→Option Bool}{S:World→Prop}{G:Act→World→Prop}{e:Plan Oper}(x y:Operand)(c:List Value)(k:Blk w b old t)(h:∀d,Blk d b c t→w.grownBy d (some b)→d.heap.size=w.heap.size→S d∧zaI Tryz.prog Y Q S G e (a.put o.dst undef) d)(m:some 1=some c.length:=by rfl)(l:old.length=c.length:=by rfl)(j:∀v∈c,v.oneCell'=true:=by simp[Value.oneCell'])(g:o.op = .store 48 x y:=by rfl)(n:Region.wanted o (Y a.tmps)=true:=by rw[hY];rfl)(i:a.eval x = .pointer (some ⟨b,0,none⟩):=by rfl)(f:a.eval y = .agg c.toArray:=by rfl):zaI Tryz.prog Y Q S G (.one o e) a w:=wpPlan_storeBl 48 x y g n b i c f old t k (if48.trans m) l j h
end
end Go.Proofs.YthhgkafloejjiaaGreat
namespace Go.Proofs.YthhgkafloejjiaaGreat
open Go.RowKit
def VV(N:S14.N)(L:NLay)(k:Nat)(b:Value):Value:=.agg #[.slice L.a1 N.comps.length L.c1,.slice L.a2 N.parts.length L.c2,.slice L.a3 N.ctxs.length L.c3,N.part,k,b]
theorem zbO(N:S14.N)(L:NLay)(k:Nat)(b:Value)(S:b.oneCell'=true)(w:World)(D:NIs N L w)(A:k<N.parts.length)(p:S14.P)(y:Lay)(s:N.parts[k]? = some p)(r:L.ys[k]? = some y) :
 Calls Tryz.prog 145 #[VV N L k b] w fun e J=>e = .returned (PV p y)∧Below w w J:=by
 obtain⟨d,o,T,V,F,t,u,v,P⟩:=D.part_at A;rw[s]at t;rw[r]at u;cases t;cases u;unfold VV;rw[F];have M:(k:Int)<(N.parts.length:Int):=by omega
 have a:some 16=some (yB p y).length:=rfl;have z:(yB S14.P0 zfF).length=(yB p y).length:=rfl;have B:=zbC p y;unfold PV;obtain⟨m,l,j,g,x,i,C,q⟩:=zz4 N.comps.length N.parts.length N.ctxs.length N.part;rw[i]at M;rw[x,i,C,q];clear x i C q A D;obtain⟨Q,E⟩:=zvJ (yB p y);rw[E]at v a z B⊢;clear E P s r;obtain⟨n,c⟩:=zvJ ((w.alloc (.cells #[.slice L.a1 m L.c1,.slice (some ⟨d,o,none⟩) l L.c2,.slice L.a3 j L.c3,g,k,b] 68)).alloc (.cells zP 50));have H:Blk n w [.slice L.a1 m L.c1,.slice (some ⟨d,o,none⟩) l L.c2,.slice L.a3 j L.c3,g,k,b] 68:=by rw[←c];exact(Blk.new w _ _).alloc _
 have K:Blk n (w.heap.size+1) (yB S14.P0 zfF) 50:=by
  rw[←c];have h:=zfH (w.alloc (.cells #[.slice L.a1 m L.c1,.slice (some ⟨d,o,none⟩) l L.c2,.slice L.a3 j L.c3,g,k,b] 68));rwa[zY]at h
 have f:Below w w n:=by rw[←c];exact((zJ _ _).alloc (zF _) _).alloc by1 _
 have R:=yV v f;obtain⟨_,X,_,_,U⟩:=H.c5;go_enter Tryz.func145,Tryz.ntmps145;go_wp2_with (first
  | (refine zaK 50 zP zdF by3 by3 ?_;rw[c])
  | (refine wpList_load_mid by3 50 (.tmp 8) by3 d (o+k*16) by3 Q _ R Tryz.underlying50 rfl (info_P.trans a) ?_)
  | (refine st50 (.tmp 2) (.tmp 9) Q K ?_ a z B;intro Y G I W))
 have O:=lv50 G a;refine rL1 O ?_;exact⟨rfl,f.trans (yA I om f.size)⟩
theorem zpL(N:S14.N)(L:NLay)(k:Nat)(b:Value)(w:World)(x:NIs N L w)(u:k<N.ctxs.length)(pt:Nat)(j:N.part=(pt:Int))(A:pt<4294967296) :
 Calls Tryz.prog 36 #[VV N L k b] w fun e C=>e = .returned (.int .u32 (S14.hash (N.ctxs.getD k 0) pt:Int))∧Below w w C:=by
 obtain⟨a,o,F,d,y⟩:=x.ctx_at u;have g:=zC fun W=>hash14_any (N.ctxs.getD k 0) pt y A W;unfold VV;rw[F,j];have E:(k:Int)<(N.ctxs.length:Int):=by omega
 obtain⟨J,I,h,c,t,s,i,q⟩:=zz4 N.comps.length N.parts.length N.ctxs.length (N.ctxs.getD k 0);obtain⟨H,r⟩:=zvJ (S14.hash c pt);rw[q]at d g y⊢;rw[r]at g⊢;rw[i]at E;rw[t,s,i];clear t s i q r u x j;obtain⟨z,G,f,l⟩:=al1 w [.slice L.a1 J L.c1,.slice L.a2 I L.c2,.slice (some ⟨a,o,none⟩) h L.c3,pt,k,b] 68;have D:=(l.cell (zE d)).trans d;go_enter Tryz.func36,Tryz.ntmps36;go_wp2_with (rw[G]);have v:Cells z [(⟨w,2,none⟩,.slice (some ⟨a,o,none⟩) h L.c3),(⟨w,3,none⟩,pt),(⟨w,4,none⟩,k),(⟨a,o+k,none⟩,.int .u32 (c:Int))]:=⟨f.cell 2,f.cell 3,f.cell 4,D,zT⟩;refine zvL 11 1 [(U,0,10),(zvE,10,1)] (Keeps z [(⟨w,2,none⟩,.slice (some ⟨a,o,none⟩) h L.c3),(⟨w,3,none⟩,pt),(⟨w,4,none⟩,k),(⟨a,o+k,none⟩,.int .u32 (c:Int))]) (Keeps.start v) fun Y O Q hY m=> ?_;repeat refine mrd ?_
 refine mcl ?_;refine mck (Keeps.start v) (g.out _) fun P M n=> ?_;refine mdn m fun K p=> ?_;clear m hY;have B:=zA l n.1;go_wp2_with fail;refine mok p ?_;clear p n;exact mf1 B
theorem zeK(N:S14.N)(L:NLay)(k:Nat)(b:Value)(w:World)(t:NIs N L w)(D:k<N.ctxs.length)(pt:Nat)(h:N.part=(pt:Int))(M:pt<4294967296)(c:S14.C)(l:N.comps[k]? = some c)(n:Nat)(F:c.bits=(n:Int))(ad:n≤16) :
 Calls Tryz.prog 162 #[VV N L k b] w fun e P=>e = .returned (.int .i64 (S14.index (N.ctxs.getD k 0) pt n:Int))∧Below w w P:=by
 have d:=zC fun(W:World) (T:Below w w W)=>zpL N L k b W (t.step T) D pt h M;obtain⟨f,o,I,x⟩:=t.comp_at l;have S:(k:Int)<(N.comps.length:Int):=by have:=(List.getElem?_eq_some_iff.1 l).1;omega
 have g:=x.e1;rw[F]at g;unfold S14.index;have Z:=S14.hash_lt (N.ctxs.getD k 0) pt;unfold VV at d⊢;rw[I,h]at d⊢;obtain⟨u,s,r,H,m,C,E,B⟩:=zz4 N.comps.length N.parts.length N.ctxs.length (S14.hash (N.ctxs.getD k 0) pt);rw[B]at d Z⊢;rw[m]at S;rw[m,C,E]at d⊢;clear m C E B D t h x l F;obtain⟨G,V,a,i⟩:=al1 w [.slice (some ⟨f,o,none⟩) u L.c1,.slice L.a2 s L.c2,.slice L.a3 r L.c3,pt,k,b] 68;have R:=(i.cell (zE g)).trans g;have ab:IntKind.i64.wrap (32-(n:Int))=((32-n:Nat):Int):=by rw[IntWalk.i64_in _ om];omega
 have ac:IntKind.u64.wrap (H:Int)=(H:Int):=by rw[IntKind.wrap_u64];omega
 have X:H/2^(32-n)≤H:=zfB _ _;have j:(H:Int)/2^(32-n)=((H/2^(32-n):Nat):Int):=by simp
 obtain⟨q,v⟩:=zvJ (H/2^(32-n));rw[v]at X j⊢;have Q:IntKind.i64.wrap (q:Int)=(q:Int):=IntWalk.i64_in _ om;have J:=zC (j▸Q:IntKind.i64.wrap ((H:Int)/2^(32-n))=((q:Nat):Int));clear v j;go_enter Tryz.func162,Tryz.ntmps162;go_wp2_with (rw[V]);have p:Cells G [(⟨w,0,none⟩,.slice (some ⟨f,o,none⟩) u L.c1),(⟨w,1,none⟩,.slice L.a2 s L.c2),(⟨w,2,none⟩,.slice L.a3 r L.c3),(⟨w,3,none⟩,pt),(⟨w,4,none⟩,k),(⟨w,5,none⟩,b),(⟨f,o+k*6+1,none⟩,n)]:=⟨a.cell 0,a.cell 1,a.cell 2,a.cell 3,a.cell 4,a.cell 5,R,zT⟩;refine zvL 14 1 [(U,0,1),(U,3,9),(zvE,1,1),(U,2,1),(U,12,2)] (Keeps G [(⟨w,0,none⟩,.slice (some ⟨f,o,none⟩) u L.c1),(⟨w,1,none⟩,.slice L.a2 s L.c2),(⟨w,2,none⟩,.slice L.a3 r L.c3),(⟨w,3,none⟩,pt),(⟨w,4,none⟩,k),(⟨w,5,none⟩,b),(⟨f,o+k*6+1,none⟩,n)]) (Keeps.start p) fun Y Q4 F4 hY y=> ?_;repeat refine mrd ?_
 refine mcl ?_;refine mck (Keeps.start p) (d.out _ (zA i (Keeps.start p).1)) fun w2 aa z=> ?_;repeat refine mrd ?_
 rw[J.out];refine mdn y fun K A=> ?_;clear y hY;have O:=zA i z.1;go_wp2_with fail;refine mok A ?_;clear A z;exact mf1 O
namespace S14
def noM(m:S12.M):Bool:=m.bits==0&&m.least==0&&m.at_==0&&m.len==0&&m.part==0&&m.bit==0&&decide (m.heads.length+m.bytes.length+m.ctrs.length=0)
def bare(p:P):Bool:=decide (p.ctrs.length=0)&&p.sb==0&&decide (p.sd.length=0)&&p.slot==0&&noM p.m&&p.mi==0&&decide (p.mw.length=0)&&decide (p.ac.length=0)
def okCtrs(l:List (Int×Int))(n:Nat)(limit:Int):Bool:=decide (l.length=n) && !l.any (fun c=>decide (S08.check c.1 c.2 limit≠0))
def zM:S12.M:=⟨0,0,[],[],0,0,0,0,[]⟩
def right(c:C)(p:P)(pt:Int):Bool:=
 if c.kind=0 then bare p
 else if c.kind=1 then bare {p with ctrs:=[]}&&okCtrs p.ctrs (2^c.bits.toNat) c.limit
 else if c.kind=2 then okCtrs p.ctrs 215 c.limit&&p.sb==c.bits&&decide (S10.check p.sb p.sd=0)&&has p.slot 0 (2^c.bits.toNat-1)&&bare {p with ctrs:=[],sb:=0,sd:=[],slot:=0}
 else if c.kind=3 then bare {p with m:=zM}&&p.m.bits==c.bits&&p.m.least==c.limit&&p.m.part==pt&&decide (S12.check p.m=0)
 else if c.kind=4 then bare p
 else if c.kind=5 then bare {p with mi:=0,mw:=[]}&&p.mi==c.second-c.first+1&&decide ((p.mw.length:Int)=2^c.bits.toNat)&&decide (S13.check 16 p.mi p.mw=0)
 else if c.kind=6 then bare {p with ac:=[]}&&decide ((p.ac.length:Int)=33*2^c.bits.toNat)&&decide (S11.check p.ac=0)
 else false
def at_(N:N)(k:Nat)(c:C):Nat:=index (N.ctxs.getD k 0) N.part.toNat c.bits.toNat
def ctr(p:P)(i:Nat):Int×Int:=p.ctrs.getD i (0,0)
def probe(p:P)(i:Nat):Int:=S06.stretch (S08.predict (ctr p i).1 (ctr p i).2)
end S14
theorem zpC:∀(l:List S14.C),∀u∈zfG l,u.oneCell'=true:=fun l u a=>by
 unfold zfG at a;obtain⟨x,d,b⟩:=List.mem_flatten.1 a;obtain⟨c,_,rfl⟩:=List.mem_map.1 d;simp only[zV,List.mem_cons,zbU,or_false]at b;rcases b with rfl|rfl|rfl|rfl|rfl|rfl<;>rfl
theorem PCs_one:∀(b:List S14.P) (a:List Lay),∀u∈PCs b a,u.oneCell'=true
 | [],_,u,hu=>by simp[PCs]at hu
 | _::_,[],u,hu=>by simp[PCs]at hu
 | p::b,y::a,u,hu=>by
   rcases List.mem_append.1 (show u∈yB p y++PCs b a from hu)with h|h
   ·exact zbC p y u h
   ·exact PCs_one b a u h
theorem U32s_one(l:List Nat):∀u∈zlZ l,u.oneCell'=true:=fun u a=>by
 obtain⟨x,_,rfl⟩:=List.mem_map.1 a;rfl
theorem Cts14_one(l:List (Int×Int)):∀u∈Cts l,u.oneCell'=true:=fun u a=>by
 unfold Cts at a;obtain⟨x,_,b⟩:=List.mem_flatMap.1 a;simp only[List.mem_cons,zbU,or_false]at b;rcases b with rfl|rfl<;>rfl
theorem zkC:Elems Tryz.prog 22 56 6 48 [.int .i64 0,.int .i64 0,.int .i64 0,.int .i64 0,.int .i64 0,.int .i64 0]:=⟨Tryz.underlying22,by kernel_rfl,rfl,by decide⟩
theorem zkB:Elems Tryz.prog 23 50 16 240 (yB S14.P0 zfF):=⟨Tryz.underlying23,by kernel_rfl,rfl,by decide⟩
theorem elems_u32:Elems Tryz.prog 24 85 1 4 [.int .u32 0]:=⟨Tryz.underlying24,by kernel_rfl,rfl,by decide⟩
theorem zoE:Elems Tryz.prog 37 143 2 16 [.int .i64 0,.int .i64 0]:=⟨Tryz.underlying37,by kernel_rfl,rfl,by decide⟩
theorem zoI(vals:List Value)(n:Nat)(m:vals.length=n*6)(z:∀u∈vals,u.oneCell'=true)(g o:Nat)(cap:Nat)(w:World)(B:1≤n)(C:n≤100000)(v:Rd w (some ⟨g,o,none⟩) vals) :
 Calls Tryz.prog 29 #[.slice (some ⟨g,o,none⟩) n cap] w fun e i=>∃b j,e = .returned (.slice b n j)∧i.ownsRow w.heap.size 56 6 (.slice b n j) n vals∧Below w w i:=by
 have A:∀(w:World) (a:Option Addr) (n c h d:Nat),(binOp .eql 22 (.slice a n c) (.slice none h d)).run Tryz.prog w = .ok (.bool a.isNone) w:=fun w a n c h d=>Lib.run_eql_slice_nil w _ _ a n c h d Tryz.underlying22;have p:=zC (v.step ((zJ w.heap.size w).alloc (zF _) (Obj.cells #[] 56)));have s:=zC m;clear m;go_enter Tryz.func29,Tryz.ntmps29;go_wp2_with (at_builtin;refine yQ _ _ 22 56 6 48 _ w.heap.size zkC rfl rfl _ 0 [] rfl (World.ownsRow_made w #[] 0 (zF _) by2 rfl) (some ⟨g,o,none⟩) n cap vals rfl s.out p.out z by5 om by1 ?_;intro q y x f l);have r:Below w w x:=Below.grown zo l by1 (fun k e=>by cases e;exact zF _);simp only[yE,lna]at f;have t:=zC f;clear l f;go_wp2;go_returns;exact⟨q,y,by simp,t.out,r⟩
theorem cloneParts14(vals:List Value)(n:Nat)(m:vals.length=n*16)(z:∀u∈vals,u.oneCell'=true)(g o:Nat)(cap:Nat)(w:World)(B:1≤n)(C:n≤100000)(v:Rd w (some ⟨g,o,none⟩) vals) :
 Calls Tryz.prog 33 #[.slice (some ⟨g,o,none⟩) n cap] w fun e i=>∃b j,e = .returned (.slice b n j)∧i.ownsRow w.heap.size 50 16 (.slice b n j) n vals∧Below w w i:=by
 have A:∀(w:World) (a:Option Addr) (n c h d:Nat),(binOp .eql 23 (.slice a n c) (.slice none h d)).run Tryz.prog w = .ok (.bool a.isNone) w:=fun w a n c h d=>Lib.run_eql_slice_nil w _ _ a n c h d Tryz.underlying23;have p:=zC (v.step ((zJ w.heap.size w).alloc (zF _) (Obj.cells #[] 50)));have s:=zC m;clear m;go_enter Tryz.func33,Tryz.ntmps33;go_wp2_with (at_builtin;refine yQ _ _ 23 50 16 240 _ w.heap.size zkB rfl rfl _ 0 [] rfl (World.ownsRow_made w #[] 0 (zF _) by2 rfl) (some ⟨g,o,none⟩) n cap vals rfl s.out p.out z by5 om by1 ?_;intro q y x f l);have r:Below w w x:=Below.grown zo l by1 (fun k e=>by cases e;exact zF _);simp only[yE,lna]at f;have t:=zC f;clear l f;go_wp2;go_returns;exact⟨q,y,by simp,t.out,r⟩
theorem cloneU32s14(vals:List Value)(n:Nat)(m:vals.length=n*1)(z:∀u∈vals,u.oneCell'=true)(g o:Nat)(cap:Nat)(w:World)(B:1≤n)(C:n≤100000)(v:Rd w (some ⟨g,o,none⟩) vals) :
 Calls Tryz.prog 34 #[.slice (some ⟨g,o,none⟩) n cap] w fun e i=>∃b j,e = .returned (.slice b n j)∧i.ownsRow w.heap.size 85 1 (.slice b n j) n vals∧Below w w i:=by
 have A:∀(w:World) (a:Option Addr) (n c h d:Nat),(binOp .eql 24 (.slice a n c) (.slice none h d)).run Tryz.prog w = .ok (.bool a.isNone) w:=fun w a n c h d=>Lib.run_eql_slice_nil w _ _ a n c h d Tryz.underlying24;have p:=zC (v.step ((zJ w.heap.size w).alloc (zF _) (Obj.cells #[] 85)));have s:=zC m;clear m;go_enter Tryz.func34,Tryz.ntmps34;go_wp2_with (at_builtin;refine yQ _ _ 24 85 1 4 _ w.heap.size elems_u32 rfl rfl _ 0 [] rfl (World.ownsRow_made w #[] 0 (zF _) by2 rfl) (some ⟨g,o,none⟩) n cap vals rfl s.out p.out z by5 om by1 ?_;intro q y x f l);have r:Below w w x:=Below.grown zo l by1 (fun k e=>by cases e;exact zF _);simp only[yE,lna]at f;have t:=zC f;clear l f;go_wp2;go_returns;exact⟨q,y,by simp,t.out,r⟩
theorem cloneCtrs14(vals:List Value)(n:Nat)(m:vals.length=n*2)(z:∀u∈vals,u.oneCell'=true)(g o:Nat)(cap:Nat)(w:World)(B:1≤n)(C:n≤100000)(v:Rd w (some ⟨g,o,none⟩) vals) :
 Calls Tryz.prog 166 #[.slice (some ⟨g,o,none⟩) n cap] w fun e i=>∃b j,e = .returned (.slice b n j)∧i.ownsRow w.heap.size 143 2 (.slice b n j) n vals∧Below w w i:=by
 have A:∀(w:World) (a:Option Addr) (n c h d:Nat),(binOp .eql 37 (.slice a n c) (.slice none h d)).run Tryz.prog w = .ok (.bool a.isNone) w:=fun w a n c h d=>Lib.run_eql_slice_nil w _ _ a n c h d Tryz.underlying37;have p:=zC (v.step ((zJ w.heap.size w).alloc (zF _) (Obj.cells #[] 143)));have s:=zC m;clear m;go_enter Tryz.func166,Tryz.ntmps166;go_wp2_with (at_builtin;refine yQ _ _ 37 143 2 16 _ w.heap.size zoE rfl rfl _ 0 [] rfl (World.ownsRow_made w #[] 0 (zF _) by2 rfl) (some ⟨g,o,none⟩) n cap vals rfl s.out p.out z by5 om by1 ?_;intro q y x f l);have r:Below w w x:=Below.grown zo l by1 (fun k e=>by cases e;exact zF _);simp only[yE,lna]at f;have t:=zC f;clear l f;go_wp2;go_returns;exact⟨q,y,by simp,t.out,r⟩
theorem zsD(F:FuncId)(K:∀t w,(callFunc F t).run Tryz.prog w = .ok (.enter F t) w)(c:Value)(b:Int×Int→Bool)(w:World)(xs:List (Int×Int))
 (q:∀x W,Below w w W→Calls Tryz.prog F #[.agg #[.int .i64 x.1,.int .i64 x.2],c] W fun e m=>e = .returned (.bool (b x))∧Below W W m) (a:Option Addr) (cap:Nat) (J:xs.length≤100000) (I:Rd w a (Cts xs)) :
 Calls Tryz.prog 175 #[.slice a xs.length cap,.func (.func F) #[] #[c]] w fun e m=>∃r:Int,e = .returned (.int .i64 r)∧decide (0≤r)=xs.any b∧Below w w m:=by
 have H:=zC q;clear q;go_enter Tryz.func175,Tryz.ntmps175;go_wp2;go_loopw [8] (fun i wr=>∃k:Nat,k≤xs.length∧i = .int .i64 k∧(xs.take k).any b=false∧Below w w wr) (fun i _=>xs.length-(intOf i).toNat)
 case atStart=>exact⟨0,by omega,rfl,rfl,zJ _ _⟩
 case round=>
  obtain⟨k,M,rfl,u,f⟩:=hrel;have L:w.heap.size≤wr.heap.size:=f.size;have y:=zC u;clear u;by_cases h:k<xs.length
  ·obtain⟨g,o,rfl,p⟩:=(I.step f) (fun e=>by have:=yG List.length e;rw[yT]at this;simp at this;omega);have A:=p (k*2) _ (zeD h).1;have n:=p (k*2+1) _ (zeD h).2;obtain⟨d,z,v⟩:=zh3 (H.out xs[k] wr f) (zcA b xs k h) (zfA b xs k h);obtain⟨x,s⟩:=zvJ (xs[k]);rw[s]at A n d z v;clear p s;obtain⟨B,C⟩:=x;simp only at A n d;rw[←zcE]at n;cases ht:b (B,C)with
   | true=>
     have G:=zC (v.out ht);rw[ht]at d;clear ht;go_wp2_with fail;refine d.out.mono ?_;rintro e E ⟨rfl,j⟩;have l:=zA f j;go_wp2;go_returns;exact⟨_,rfl,by rw[G.out];simp,l⟩
   | false=>
     have D:=zC (show(xs.take (k+1)).any b=false by rw[z.out,y.out,ht];rfl);rw[ht]at d;clear ht;go_wp2_with fail;refine d.out.mono ?_;rintro e E ⟨rfl,j⟩;have l:=zA f j;go_wp2;go_roundw
     case rel=>exact⟨k+1,by omega,by go_num,D.out,l⟩
     case measure=>simp[intOf];omega
  ·obtain rfl:k=xs.length:=by omega
   go_wp2;go_returns;refine⟨_,rfl,?_,f⟩;have:=y.out;rw[zaD]at this;rw[this];rfl
theorem zmX(F:FuncId)(l:∀j w,(callFunc F j).run Tryz.prog w = .ok (.enter F j) w)(c:Value)(d:Int×Int→Bool)(w:World)(xs:List (Int×Int))
 (g:∀x W,Below w w W→Calls Tryz.prog F #[.agg #[.int .i64 x.1,.int .i64 x.2],c] W fun e f=>e = .returned (.bool (d x))∧Below W W f) (a:Option Addr) (cap:Nat) (n:xs.length≤100000) (o:Rd w a (Cts xs)) :
 Calls Tryz.prog 169 #[.slice a xs.length cap,.func (.func F) #[] #[c]] w fun e f=>e = .returned (.bool (xs.any d))∧Below w w f:=by
 have i:=zC (zsD F l c d w xs g a cap n o);clear g;obtain⟨b,h⟩:=zvJ (xs.any d);rw[h]at i⊢;clear h;go_enter Tryz.func169,Tryz.ntmps169;go_wp2_with fail;refine i.out.mono ?_;rintro e p ⟨r,rfl,m,k⟩;go_wp2;go_returns;exact⟨by first|rfl|exact zaA m,k⟩
def S14.badC(limit:Int)(c:Int×Int):Bool:=decide (S08.check c.1 c.2 limit≠0)
theorem badC14_any(a:Int)(x:Int×Int)(B:Nat)(w:World)(j:w.cell? ⟨B,0,none⟩=some (.int .i64 a)) :
 Calls Tryz.prog 170 #[.agg #[.int .i64 x.1,.int .i64 x.2],.pointer (some ⟨B,0,none⟩)] w fun e f=>e = .returned (.bool (S14.badC a x))∧Below w w f:=by
 have b:=zC fun W=>zeM x.1 x.2 a W;have d:=zE j;unfold S14.badC;obtain⟨g,k⟩:=x;simp only at b d⊢;obtain⟨r,c⟩:=zvJ (S08.check g k a);rw[c]at b⊢;clear c;go_enter Tryz.func170,Tryz.ntmps170;go_wp2_with fail;refine mnx w (b.out _) fun m l i _=> ?_;go_wp2;go_returns;exact⟨zaA (by by_cases h:r=0<;>simp[h]),i⟩
theorem zhO(xs:List (Int×Int))(n:Nat)(b:Int)(a:Option Addr)(cap:Nat)(w:World)(r:n≤65536)(h:Rd w a (Cts xs)) :
 Calls Tryz.prog 164 #[.slice a xs.length cap,n,b] w fun e m=>e = .returned (.bool (decide (xs.length=n) && !xs.any (S14.badC b)))∧Below w w m:=by
 have d:Below w w (w.alloc (.cells #[b] 3)):=(zJ _ _).alloc (zF _) _;have o:Blk (w.alloc (.cells #[b] 3)) w.heap.size [b] 3:=Blk.new w _ _;by_cases c:xs.length=n
 ·have f:=zC (zmX 170 (enters_of Tryz.func170 zk rfl) (.pointer (some ⟨w,0,none⟩)) (S14.badC b) (w.alloc (.cells #[b] 3)) xs
   (fun x W j=>badC14_any b x w.heap.size W ((o.step j).cell 0)) a cap om (h.step d))
  obtain⟨q,g⟩:=zvJ (xs.any (S14.badC b));rw[g]at f⊢;rw[zO c,zaP];rw[c]at f⊢;clear c g h;have l:((n:Int)==(n:Int))=true:=by simp
  go_enter Tryz.func164,Tryz.ntmps164;go_wp2_with fail;refine f.out.mono ?_;rintro e p ⟨rfl,i⟩;have k:=zA d i;exact mf1 k
 ·rw[zL c,zdD];have l:((xs.length:Int)==(n:Int))=false:=by simp;omega
  go_enter Tryz.func164,Tryz.ntmps164;exact mf1 d
structure Kept(lo hi:Nat)(w w':World):Prop where
 os:w'.os=w.os
 tape:w'.tape=w.tape
 output:w'.output=w.output
 size:w.heap.size≤w'.heap.size
 same:∀k,k<lo∨hi≤k→k<w.heap.size→w'.heap[k]? = w.heap[k]?
theorem Kept.trans{e d:Nat}{a b c:World}(h:Kept e d a b)(k:Kept e d b c):Kept e d a c:=
 ⟨k.os.trans h.os,k.tape.trans h.tape,k.output.trans h.output,yD h.size k.size,fun i d f=>(k.same i d (zbA f h.size)).trans (h.same i d f)⟩
theorem Kept.below{d e:Nat}{a b:World}(h:Below a a b):Kept d e a b:=⟨h.os,h.tape,h.output,h.size,fun k _ c=>h.block k c⟩
theorem Rd.kept{c d:Nat}{w w':World}{a:Option Addr}{vals:List Value}(h:Rd w a vals)(f:Kept c d w w')(m:∀g o,a=some ⟨g,o,none⟩→g<c∨d≤g):Rd w' a vals:=fun l=>by
 obtain⟨g,o,rfl,k⟩:=h l;refine⟨g,o,rfl,fun j v e=> ?_⟩;have b:=k j v e;have i:=f.same g (m g o rfl) (zE b);unfold World.cell? at b⊢;rw[i];exact b
def PRob(lo hi:Nat)(p:S14.P)(y:Lay)(w:World):Prop:=∀w',Kept lo hi w w'→PIs p y w'
theorem PRob.kept{a b:Nat}{p:S14.P}{y:Lay}{w w':World}(h:PRob a b p y w)(c:Kept a b w w'):PRob a b p y w':=fun d e=>h d (c.trans e)
theorem PRob.zero(c b:Nat)(w:World):PRob c b S14.P0 zfF w:=fun a _=>PIs.zero a
def S14.outs(O:Nat→List Int→Int):Nat→List Int
 | 0=>[]
 | k+1=>S14.outs O k ++ [O k (S14.outs O k)]
theorem S14.outs_length(O:Nat→List Int→Int):∀k,(S14.outs O k).length=k
 | 0=>rfl
 | k+1=>by rw[S14.outs,zaG,S14.outs_length O k];rfl
def OutF(c:S14.C):FuncId:=
 if c.kind=0 then 143 else if c.kind=1 then 156 else if c.kind=2 then 185 else if c.kind=3 then 201 else if c.kind=4 then 230 else if c.kind=5 then 238 else 258
def zgG(N:S14.N)(L:NLay)(w:World)(O:Nat→List Int→Int):Prop:=
 ∀(k:Nat) (c:S14.C),N.comps[k]? = some c→∀(bef:List Int) (a:Option Addr) (W:World),Below w w W→Rd W a (zaE bef)→bef.length=k→(∀x∈bef,-3071≤x∧x≤3071)→
  (Calls Tryz.prog (OutF c) #[CV c,VV N L k (.slice a k k)] W fun e w'=>e = .returned (.int .i64 (O k bef))∧Below W W w')∧ -3071≤O k bef∧O k bef≤3071
theorem znD(v:Value)(w:World):(nilAhead 384 87 v "compactor/network.output").run Tryz.prog w = .ok (some false) w:=by kernel_rfl
theorem zoN(v:Value)(w:World):(method 384 87 v "compactor/network.output").run Tryz.prog w = .ok (143,v) w:=by kernel_rfl
theorem zrI(v:Value)(w:World):(nilAhead 384 88 v "compactor/network.output").run Tryz.prog w = .ok (some false) w:=by kernel_rfl
theorem zsC(v:Value)(w:World):(method 384 88 v "compactor/network.output").run Tryz.prog w = .ok (156,v) w:=by kernel_rfl
theorem zoW(v:Value)(w:World):(nilAhead 384 89 v "compactor/network.output").run Tryz.prog w = .ok (some false) w:=by kernel_rfl
theorem zqL(v:Value)(w:World):(method 384 89 v "compactor/network.output").run Tryz.prog w = .ok (185,v) w:=by kernel_rfl
theorem zoV(v:Value)(w:World):(nilAhead 384 90 v "compactor/network.output").run Tryz.prog w = .ok (some false) w:=by kernel_rfl
theorem zqK(v:Value)(w:World):(method 384 90 v "compactor/network.output").run Tryz.prog w = .ok (201,v) w:=by kernel_rfl
theorem zoX(v:Value)(w:World):(nilAhead 384 91 v "compactor/network.output").run Tryz.prog w = .ok (some false) w:=by kernel_rfl
theorem zqM(v:Value)(w:World):(method 384 91 v "compactor/network.output").run Tryz.prog w = .ok (230,v) w:=by kernel_rfl
theorem zsH(v:Value)(w:World):(nilAhead 384 92 v "compactor/network.output").run Tryz.prog w = .ok (some false) w:=by kernel_rfl
theorem zuN(v:Value)(w:World):(method 384 92 v "compactor/network.output").run Tryz.prog w = .ok (238,v) w:=by kernel_rfl
theorem zoU(v:Value)(w:World):(nilAhead 384 93 v "compactor/network.output").run Tryz.prog w = .ok (some false) w:=by kernel_rfl
theorem zqJ(v:Value)(w:World):(method 384 93 v "compactor/network.output").run Tryz.prog w = .ok (258,v) w:=by kernel_rfl
theorem mk0_14(n:Nat)(l:n≤200)(w:World):(Instr.makeSlice 41 (.int .i64 0) (.int .i64 (n:Int))).run Tryz.prog w = .ok (.slice (some ⟨w,0,none⟩) 0 n) (w.alloc (.cells (List.replicate n (.int .i64 0)).toArray 3)):=by
 obtain⟨i,a,g,h,c,j,k,e⟩:=elems_ints.open;have b:=run_make (P:=Tryz.prog) w 41 3 i a elems_ints.1 g h .i64 .i64 0 n om om (by rw[j];omega) om;simp only[Int.toNat_natCast]at b;have d:a.cells = #[.int .i64 0]:=by
  apply Array.ext';rw[e]
 have f:madeCells a.cells (n*i.size)=(List.replicate n (Value.int .i64 0)).toArray:=by
  rw[c,Nat.mul_one,d];apply Array.ext';rw[toList_madeCells_one]
 rw[f]at b;exact b
theorem zuH(N:S14.N)(L:NLay)(O:Nat→List Int→Int)(w:World)(hN:NIs N L w)(hl:N.comps.length≤16)(aJ:∀c∈N.comps,0≤c.kind∧c.kind≤6)(HK:zgG N L w O) :
 Calls Tryz.prog 32 #[NV N L] w fun e w'=>∃a aA,e = .returned (.slice a N.comps.length aA)∧Rd w' a (zaE (S14.outs O N.comps.length))∧(∀g o,a=some ⟨g,o,none⟩→w.heap.size≤g)∧N.comps.length≤aA∧Below w w w':=by
 have HN:=zC hN;have HO:=zC fun(x:S14.C) W=>(show Calls Tryz.prog 17 #[.agg #[x.kind,x.bits,x.limit,x.rate,x.first,x.second]] W _ from zhG x W);obtain⟨C,aT⟩:=zh2 HK aJ;unfold NV zaN;have aO:=zC (rfl:N.comps.length=N.comps.length);obtain⟨b,n,q,s,M,ai,al,ae⟩:=zz4 N.comps.length N.parts.length N.ctxs.length N.part;rw[M]at hl;rw[M,ai,al,ae];unfold zgG VV at C;rw[M,ai,al,ae]at C;have aQ:=zC M;clear M ai al ae hN HK aJ aO;obtain⟨P,af,m,B0⟩:=al1 w [.slice L.a1 b L.c1,.slice L.a2 n L.c2,.slice L.a3 q L.c3,s] 26;have Z:P.heap.size=w.heap.size+1:=by rw[←af];simp
 have aL:=mk0_14 b om P;obtain⟨W1,aj,_,ab⟩:=al1 P ((List.replicate b (.int .i64 0))) 3;obtain⟨G,hG⟩:=zvJ (w.heap.size+1);have p:W1.ownsRow G 3 1 (.slice (some ⟨G,0,none⟩) 0 b) 0 (zaE (S14.outs O 0)):=by
  rw[←aj,←hG,←Z];exact World.ownsRow_made P _ b (zF _) by5 by1
 have A:=m.step ab;have B1:=zA B0 ab;have aH:G≤W1.heap.size:=by rw[←hG,←Z];exact ab.size
 rw[aj,Z,hG]at aL;clear ab aj B0;have T:=m.cell 0;have an:=A.cell 0;simp only[lgz]at T an;go_enter Tryz.func32,Tryz.ntmps32;go_wp2_with (rw[af]);clear m T af Z aL an
 go_loopw [3,13] (fun v i wr=>∃(k:Nat) (a:Option Addr) (c:Nat),k≤b∧i = .int .i64 (k:Int)∧v = .slice a k c∧Hid (wr.ownsRow G 3 1 (.slice a k c) k (zaE (S14.outs O k)))∧Hid (∀x∈S14.outs O k,-3071≤x∧x≤3071)∧
  Blk wr w [.slice L.a1 b L.c1,.slice L.a2 n L.c2,.slice L.a3 q L.c3,s] 26∧Below w w wr∧G≤wr.heap.size) (fun _ i _=>b-(intOf i).toNat)
 case atStart=>exact⟨0,_,b,by omega,rfl,rfl,zC p,zC (fun x D=>by cases D),A,B1,aH⟩
 case round=>
  clear p A B1 aH;obtain⟨k,a,c,hk,rfl,rfl,p,ag,m,hB,hz⟩:=hrel;by_cases a4:k<b
  ·have a3:(k:Int)<(b:Int):=by omega
   obtain⟨x,D⟩:∃x,N.comps[k]? = some x:=⟨_,zD (by have:=aQ.out;omega)⟩;obtain⟨g,o,aZ,x0,x1,x2,x3,x4,x5⟩:=(HN.out.step hB).comp_at D;have Hx:=zC D;have a7:=aT.out x (yF D);obtain⟨aI,a2⟩:k≤c∧c≤maxLen:=by
    obtain⟨a0,c0,e,h1,h2⟩:=zaV p.out;simp only[Value.slice.injEq]at e;omega
   have a8:(k:Int)≤(c:Int):=by omega
   rw[aZ]at m C⊢;obtain⟨f,am,_,J⟩:=al1 wr [x.kind,x.bits,x.limit,x.rate,x.first,x.second] 56;obtain⟨Q,hQ⟩:=zvJ wr.heap.size;have t:Blk f Q [x.kind,x.bits,x.limit,x.rate,x.first,x.second] 56:=by rw[←am,←hQ];exact Blk.new wr _ _
   have I:=m.step J;have B5:=zA hB J;have E:G≤f.heap.size:=yD hz J.size;have aC:=yM (B:=0) p.out J;have ak:=zC aC
   have aM:Cells f [(⟨Q,0,none⟩,x.kind),(⟨Q,1,none⟩,x.bits),(⟨Q,2,none⟩,x.limit),(⟨Q,3,none⟩,x.rate),(⟨Q,4,none⟩,x.first),(⟨Q,5,none⟩,x.second),(⟨w,0,none⟩,.slice (some ⟨g,o,none⟩) b L.c1),(⟨w,1,none⟩,.slice L.a2 n L.c2),(⟨w,2,none⟩,.slice L.a3 q L.c3),(⟨w,3,none⟩,s)]:=
    ⟨t.cell 0,t.cell 1,t.cell 2,t.cell 3,t.cell 4,t.cell 5,I.cell 0,I.cell 1,I.cell 2,I.cell 3,zT⟩
   have T:=m.cell 0;simp only[lgz]at T;clear aC J m;go_wp2_with (first|(rw[am,hQ])|(rw[am])|fail);have hX:=C.out k x Hx.out (S14.outs O k) a f B5 (Rd.of_owns ak.out) (S14.outs_length O k) ag.out;have ar:=zC hX.2;have l:=fun(W:World) (d:Below f f W)=>(C.out k x Hx.out (S14.outs O k) a W (zA B5 d) (Rd.of_owns (yM (B:=0) ak.out d)) (S14.outs_length O k) ag.out).1;obtain⟨R,hR⟩:=zvJ (O k (S14.outs O k));rw[hR]at l ar;have HR:=zC hR;clear hX hR;unfold CV zV at l;have aV:OfV x=OfV x:=rfl;have aN:=zC (show∀V,OfV x=V→OfV x=V from fun _ h=>h);unfold OutF at l;obtain⟨S,F,aY,aE,bb,a6,a5⟩:∃(S:TypeId) (F:FuncId),OfV x = .iface S (.agg #[x.kind,x.bits,x.limit,x.rate,x.first,x.second])∧(∀W,Below f f W→Calls Tryz.prog F #[.agg #[x.kind,x.bits,x.limit,x.rate,x.first,x.second],.agg #[.slice (some ⟨g,o,none⟩) b L.c1,.slice L.a2 n L.c2,.slice L.a3 q L.c3,s,k,.slice a k k]] W fun e w'=>e = .returned (.int .i64 R)∧Below W W w')∧(∀ax w,(callFunc F ax).run Tryz.prog w = .ok (.enter F ax) w)∧(∀w,(method 384 S (.agg #[x.kind,x.bits,x.limit,x.rate,x.first,x.second]) "compactor/network.output").run Tryz.prog w = .ok (F,(.agg #[x.kind,x.bits,x.limit,x.rate,x.first,x.second])) w)∧(∀w,(nilAhead 384 S (.agg #[x.kind,x.bits,x.limit,x.rate,x.first,x.second]) "compactor/network.output").run Tryz.prog w = .ok (some false) w):=by
    by_cases m:x.kind=0
    ·refine⟨87,143,?_,?_,enters_of Tryz.func143 zk rfl,zoN _,znD _⟩
     ·unfold OfV CV zV;simp only[m];rfl
     ·intro W d;have:=l W d;simp only[m]at this⊢;exact this
    by_cases A:x.kind=1
    ·refine⟨88,156,?_,?_,enters_of Tryz.func156 zk rfl,zsC _,zrI _⟩
     ·unfold OfV CV zV;simp only[A];rfl
     ·intro W d;have:=l W d;simp only[A]at this⊢;exact this
    by_cases k2:x.kind=2
    ·refine⟨89,185,?_,?_,enters_of Tryz.func185 zk rfl,zqL _,zoW _⟩
     ·unfold OfV CV zV;simp only[k2];rfl
     ·intro W d;have:=l W d;simp only[k2]at this⊢;exact this
    by_cases k3:x.kind=3
    ·refine⟨90,201,?_,?_,enters_of Tryz.func201 zk rfl,zqK _,zoV _⟩
     ·unfold OfV CV zV;simp only[k3];rfl
     ·intro W d;have:=l W d;simp only[k3]at this⊢;exact this
    by_cases k4:x.kind=4
    ·refine⟨91,230,?_,?_,enters_of Tryz.func230 zk rfl,zqM _,zoX _⟩
     ·unfold OfV CV zV;simp only[k4];rfl
     ·intro W d;have:=l W d;simp only[k4]at this⊢;exact this
    by_cases k5:x.kind=5
    ·refine⟨92,238,?_,?_,enters_of Tryz.func238 zk rfl,zuN _,zsH _⟩
     ·unfold OfV CV zV;simp only[k5];rfl
     ·intro W d;have:=l W d;simp only[k5]at this⊢;exact this
    by_cases k6:x.kind=6
    ·refine⟨93,258,?_,?_,enters_of Tryz.func258 zk rfl,zqJ _,zoU _⟩
     ·unfold OfV CV zV;simp only[k6];rfl
     ·intro W d;have:=l W d;simp only[k6]at this⊢;exact this
    omega
   have HX:=zC aE;clear l aE aV aN;go_wp2_with fail;refine zvL 16 1 [(U,0,2),(U,3,7),(zvE,2,1),(U,10,3),(zvE,13,1),(zvE,14,1),(zvE,15,1)] (fun K=>Below G f K∧Cells K [(⟨Q,0,none⟩,x.kind),(⟨Q,1,none⟩,x.bits),(⟨Q,2,none⟩,x.limit),(⟨Q,3,none⟩,x.rate),(⟨Q,4,none⟩,x.first),(⟨Q,5,none⟩,x.second),(⟨w,0,none⟩,.slice (some ⟨g,o,none⟩) b L.c1),(⟨w,1,none⟩,.slice L.a2 n L.c2),(⟨w,2,none⟩,.slice L.a3 q L.c3),(⟨w,3,none⟩,s)]) (⟨(zJ _ _).drew,aM⟩) fun Y Q4 F4 hY hF=> ?_;repeat refine mrd ?_
   refine mcl ?_;refine(HO.out x _).mono ?_;rintro e w6 ⟨rfl,aX⟩;have ac:Below f f w6:=zA ((zJ _ _).drew) aX;have aB:Cells w6 [(⟨Q,0,none⟩,x.kind),(⟨Q,1,none⟩,x.bits),(⟨Q,2,none⟩,x.limit),(⟨Q,3,none⟩,x.rate),(⟨Q,4,none⟩,x.first),(⟨Q,5,none⟩,x.second),(⟨w,0,none⟩,.slice (some ⟨g,o,none⟩) b L.c1),(⟨w,1,none⟩,.slice L.a2 n L.c2),(⟨w,2,none⟩,.slice L.a3 q L.c3),(⟨w,3,none⟩,s)]:=Cells.step ac aM;refine⟨_,rfl,⟨ac.mono E,aB⟩,?_⟩;simp only[zvF];rw[aY];repeat refine mrd ?_
   refine mcl ?_;refine(HX.out w6 ac).mono ?_;rintro e j ⟨rfl,az⟩;have aF:Cells j [(⟨Q,0,none⟩,x.kind),(⟨Q,1,none⟩,x.bits),(⟨Q,2,none⟩,x.limit),(⟨Q,3,none⟩,x.rate),(⟨Q,4,none⟩,x.first),(⟨Q,5,none⟩,x.second),(⟨w,0,none⟩,.slice (some ⟨g,o,none⟩) b L.c1),(⟨w,1,none⟩,.slice L.a2 n L.c2),(⟨w,2,none⟩,.slice L.a3 q L.c3),(⟨w,3,none⟩,s)]:=Cells.step az aB;have aw:Below f f j:=zA ac az;refine⟨_,rfl,⟨aw.mono E,aF⟩,?_⟩;simp only[zvF];have au:Below j j (j.alloc (.cells #[R] 3)):=(zJ _ _).alloc (zF _) _;have u:=zA aw au;have a1:=Cells.step au aF;have ap:=yM (B:=0) ak.out u;have aq:Rd (j.alloc (.cells #[R] 3)) (some ⟨j,0,none⟩) (zaE [R]):=(fun _=>⟨_,0,rfl,(Blk.new j [R] 3).cells⟩);have aG:=t.step u;have ao:=I.step u;have aK:G≤(j.alloc (.cells #[R] 3)).heap.size:=yD E u.size;obtain⟨X,aW⟩:=zh2 ap aq;clear ap aq;refine mvl ((show Below G f (j.alloc (.cells #[R] 3))∧Cells (j.alloc (.cells #[R] 3)) [(⟨Q,0,none⟩,x.kind),(⟨Q,1,none⟩,x.bits),(⟨Q,2,none⟩,x.limit),(⟨Q,3,none⟩,x.rate),(⟨Q,4,none⟩,x.first),(⟨Q,5,none⟩,x.second),(⟨w,0,none⟩,.slice (some ⟨g,o,none⟩) b L.c1),(⟨w,1,none⟩,.slice L.a2 n L.c2),(⟨w,2,none⟩,.slice L.a3 q L.c3),(⟨w,3,none⟩,s)]from⟨u.mono E,a1⟩)) ?_;generalize j.alloc (.cells #[R] 3)=w8 at *;refine znG (.tmp 18) (.tmp 32) 41 3 1 8 _ G elems_ints (.slice a k c) k (zaE (S14.outs O k)) (some ⟨j,0,none⟩) 1 1 (zaE [R]) (by rw[hY];rfl) rfl rfl rfl rfl (zgH [R]) by5 om X.out aW.out aK ?_;intro a9 c9 w9 av aa;have aD:=zaS X.out aG by2;have ay:=zaS X.out ao by2;have z:=aG.keptRow aa (Ne.symm aD);have H:=ao.keptRow aa (Ne.symm ay);have aP:Below G w8 w9:=Below.grown (zJ _ _) aa aK (fun r e=>(zbP X.out e).1);have ah:Below G f w9:=(u.mono E).trans aP;have ad:w9.ownsRow G 3 1 (.slice a9 (k+1) c9) (k+1) (zaE (S14.outs O (k+1))):=by
    rw[S14.outs,HR.out];have e:zaE (S14.outs O k ++ [R])=zaE (S14.outs O k)++zaE [R]:=by unfold zaE;rw[List.map_append]
    rw[e];exact av
   have aR:=zC ad;refine⟨⟨ah,z.cell 0,z.cell 1,z.cell 2,z.cell 3,z.cell 4,z.cell 5,H.cell 0,H.cell 1,H.cell 2,H.cell 3,zT⟩,?_⟩;simp only[zvF];have aU:Below w w w9:=B5.trans (ah.mono om);have ba:=ah.size;clear av ad aa aD ay;refine mdn hF fun K hK=> ?_;clear hF hY;go_wp2_with fail;refine mok hK ?_;clear hK;go_wp2;go_roundw
   case rel=>
    refine⟨k+1,a9,c9,by omega,by simp,rfl,aR.out |> zC,zC (fun y hy=> ?_),H,aU,by omega⟩;rw[S14.outs]at hy;rcases List.mem_append.1 hy with h|h
    ·exact ag.out y h
    ·rw[List.mem_singleton.1 h];rw[HR.out];exact ar.out
   case measure=>simp[intOf];omega
  ·obtain rfl:k=b:=by omega
   have ad:=zC (Rd.of_owns p.out);have aI:k≤c:=by
    obtain⟨a0,c0,e,h1,h2⟩:=zaV p.out;simp only[Value.slice.injEq]at e;omega
   have aS:=zC (show∀g o,a=some ⟨g,o,none⟩→w.heap.size≤g from fun g o e=>by
    have:=(p.out.lt g (by rw[e];rfl)).1;omega)
   go_wp2;go_returns;exact⟨a,c,rfl,ad.out,aS.out,aI,hB⟩
theorem zdB{P:Program}{w:World}{o:Oper}{a:Act}(T:TypeId)(x:Operand)(f:o.op = .load T x)(b e:Nat)(g:a.eval x = .pointer (some ⟨b,e,none⟩))(c:List Value)(i:w.rangeAt b e c)(d:TypeDesc)(h:P.underlying T=some d)(k:d.isRow=true)(j:(P.info? T).map (·.size)=some c.length) :
 (execOp a.eval o).run P w = .ok (.value (.agg c.toArray)) w:=by
 unfold execOp;simp only[f,g,Instr.loadAt,Instr.sureAddr,Sem.run_bind,Sem.run_pure,Result.andThen_ok,run_loadVar_mid w b e T c d i h k j]
def S14.allRight(N:S14.N):Prop:=∀(k:Nat) (c:S14.C) (p:S14.P),N.comps[k]? = some c→N.parts[k]? = some p→S14.right c p N.part=true
open Classical in
noncomputable def S14.checkNet(N:S14.N):Int:=if S14.check N.comps≠0 then S14.check N.comps else if N.parts.length≠N.comps.length∨N.ctxs.length≠16 then 6 else if S14.has N.part 1 255=false then 2 else if S14.allRight N then 0 else 3
def zhT(c:S14.C):FuncId:=
 if c.kind=0 then 144 else if c.kind=1 then 157 else if c.kind=2 then 186 else if c.kind=3 then 202 else if c.kind=4 then 231 else if c.kind=5 then 239 else 259
def zeQ(N:S14.N)(L:NLay)(w:World):Prop:=
 ∀(k:Nat) (c:S14.C) (p:S14.P) (y:Lay),N.comps[k]? = some c→S14.ok c (k:Int)=true→N.parts[k]? = some p→L.ys[k]? = some y→∀W,Below w w W→
  Calls Tryz.prog (zhT c) #[CV c,PV p y,N.part] W fun e w'=>e = .returned (.bool (S14.right c p N.part))∧Below W W w'
theorem zkH(v:Value)(w:World):(nilAhead 384 87 v "compactor/network.right").run Tryz.prog w = .ok (some false) w:=by kernel_rfl
theorem zkX(v:Value)(w:World):(method 384 87 v "compactor/network.right").run Tryz.prog w = .ok (144,v) w:=by kernel_rfl
theorem znC(v:Value)(w:World):(nilAhead 384 88 v "compactor/network.right").run Tryz.prog w = .ok (some false) w:=by kernel_rfl
theorem zoM(v:Value)(w:World):(method 384 88 v "compactor/network.right").run Tryz.prog w = .ok (157,v) w:=by kernel_rfl
theorem zlN(v:Value)(w:World):(nilAhead 384 89 v "compactor/network.right").run Tryz.prog w = .ok (some false) w:=by kernel_rfl
theorem zmK(v:Value)(w:World):(method 384 89 v "compactor/network.right").run Tryz.prog w = .ok (186,v) w:=by kernel_rfl
theorem zlM(v:Value)(w:World):(nilAhead 384 90 v "compactor/network.right").run Tryz.prog w = .ok (some false) w:=by kernel_rfl
theorem zmJ(v:Value)(w:World):(method 384 90 v "compactor/network.right").run Tryz.prog w = .ok (202,v) w:=by kernel_rfl
theorem zlO(v:Value)(w:World):(nilAhead 384 91 v "compactor/network.right").run Tryz.prog w = .ok (some false) w:=by kernel_rfl
theorem zmL(v:Value)(w:World):(method 384 91 v "compactor/network.right").run Tryz.prog w = .ok (231,v) w:=by kernel_rfl
theorem zoT(v:Value)(w:World):(nilAhead 384 92 v "compactor/network.right").run Tryz.prog w = .ok (some false) w:=by kernel_rfl
theorem zqI(v:Value)(w:World):(method 384 92 v "compactor/network.right").run Tryz.prog w = .ok (239,v) w:=by kernel_rfl
theorem zlL(v:Value)(w:World):(nilAhead 384 93 v "compactor/network.right").run Tryz.prog w = .ok (some false) w:=by kernel_rfl
theorem zmI(v:Value)(w:World):(method 384 93 v "compactor/network.right").run Tryz.prog w = .ok (259,v) w:=by kernel_rfl
theorem S14.check_zero_N{l:List S14.C}(h:S14.check l=0):1≤l.length∧l.length≤16∧∀(k:Nat) (x:S14.C),l[k]? = some x→S14.ok x (k:Int)=true:=by
 unfold S14.check at h;split at h
 ·cases h
 ·split at h
  ·rename_i b a
   exact⟨by omega,by omega,(S14.allOk_iff l).1 a⟩
  ·cases h
theorem zjS(N:S14.N)(L:NLay)(w:World)(hN:NIs N L w)(aB:N.comps.length≤4611686018427387904)(HR:zeQ N L w) :
 Calls Tryz.prog 31 #[NV N L] w fun e w'=>e = .returned (.int .i64 (S14.checkNet N))∧Below w w w':=by
 have G:Below w w (w.alloc (.cells (zaN N L).toArray 26)):=(zJ _ _).alloc (zF _) _;have HC:=zC fun(W:World) (b:Below w w W)=>zrD N.comps L.a1 L.c1 W aB (hN.rc.step b);have ae:=zC fun W=>zaR N.part 1 255 W;obtain⟨HN,aP⟩:=zh2 hN HR;have HO:=zC fun(x:S14.C) W=>(show Calls Tryz.prog 17 #[.agg #[x.kind,x.bits,x.limit,x.rate,x.first,x.second]] W _ from zhG x W);obtain⟨R,d⟩:=zvJ (S14.checkNet N);rw[d];unfold S14.checkNet at d;have HZ:=zC (fun h=>S14.check_zero_N (l:=N.comps) h);obtain⟨E,hE⟩:=zvJ (S14.check N.comps);rw[hE]at d HC HZ;obtain⟨aF,aq⟩:=zvJ (S14.has N.part 1 255);rw[aq]at d ae;unfold NV zaN at *;obtain⟨s,z,H,C,S,t,D,V⟩:=zz4 N.comps.length N.parts.length N.ctxs.length N.part;rw[S,t,D]at d;rw[S]at HZ HC;rw[S,t,D,V]at G;rw[V]at ae;rw[S,t,D,V];obtain⟨ao,aM,ac⟩:=zh3 S t V;clear S t D V hN HR hE aq aB;obtain⟨W0,I,a,_⟩:=al1 w [.slice L.a1 s L.c1,.slice L.a2 z L.c2,.slice L.a3 H L.c3,C] 26;rw[show([.slice L.a1 s L.c1,.slice L.a2 z L.c2,.slice L.a3 H L.c3,C]:List Value).toArray = #[.slice L.a1 s L.c1,.slice L.a2 z L.c2,.slice L.a3 H L.c3,.int .i64 C]from rfl,I]at G;have ab:=zC (HC.out W0 G);clear HC;by_cases ad:E=0
 ·subst ad;obtain⟨aQ,aT,al⟩:=HZ.out rfl;have aC:=zC al;rw[zG by1]at d;clear HZ al;by_cases t:z=s
  ·by_cases D:H=16
   ·rw[zG om]at d;have T:((z:Int) != (s:Int))=false:=by simp[t]
    have X:((H:Int) != 16)=false:=by simp[D]
    have aA:=zC t;clear t D;cases aF with
    | false=>
      rw[zQ rfl]at d;subst d;obtain⟨m,n,r,f⟩:=a.c4;go_enter Tryz.func31,Tryz.ntmps31;go_wp2_with (rw[I]);refine ab.out.mono ?_;rintro e w1 ⟨rfl,u⟩;have v:=a.step u;have A:=zA G u;clear m n r f a;have a:=v;obtain⟨m,n,r,f⟩:=a.c4;go_wp2_with fail;refine mnb A (ae.out _) fun w2 af B2=> ?_;exact mf1 B2
    | true=>
      rw[zG by1]at d;have ar:=zC d;clear d;obtain⟨m,n,r,f⟩:=a.c4;go_enter Tryz.func31,Tryz.ntmps31;go_wp2_with (rw[I]);refine ab.out.mono ?_;rintro e w1 ⟨rfl,u⟩;have v:=a.step u;have A:=zA G u;clear m n r f a;have a:=v;obtain⟨m,n,r,f⟩:=a.c4;go_wp2_with fail;refine(ae.out _).mono ?_;rintro e w2 ⟨rfl,af⟩;have J:=v.step af;have B2:=zA A af;clear m n r f a;have a:=J;obtain⟨m,n,r,f⟩:=a.c4;go_wp2_with fail;clear m n r f a T X
      go_loopw [34] (fun i wr=>∃(k:Nat),k≤s∧i = .int .i64 (k:Int)∧Hid (∀(j:Nat) (c:S14.C) (p:S14.P),j<k→N.comps[j]? = some c→N.parts[j]? = some p→S14.right c p C=true)∧
       Blk wr w [.slice L.a1 s L.c1,.slice L.a2 z L.c2,.slice L.a3 H L.c3,C] 26∧Below w w wr) (fun i _=>s-(intOf i).toNat)
      case atStart=>exact⟨0,by omega,rfl,zC (fun j c p hj=>by omega),J,B2⟩
      case round=>
       clear v J A B2;obtain⟨k,hk,rfl,ax,a,hB⟩:=hrel;by_cases aS:k<s
       ·have aR:(k:Int)<(s:Int):=by omega
        have aV:(k:Int)<(z:Int):=by have:=aA.out;omega
        obtain⟨x,O⟩:∃x,N.comps[k]? = some x:=⟨_,zD (by have:=ao.out;omega)⟩;obtain⟨g,o,aN,x0,x1,x2,x3,x4,x5⟩:=(HN.out.step hB).comp_at O;obtain⟨g2,o2,p,y,aO,hp,hy,ak,aH⟩:=HN.out.part_at (k:=k) (by have:=aM.out;have:=aA.out;omega);obtain⟨Hx,Hp⟩:=zh2 O hp;have av:=aC.out k x O;have aI:=(S14.ok_is av).kind;have aa:=fun(W:World) (b:Below w w W)=>aP.out k x p y O av hp hy W b;obtain⟨q,hq⟩:=zvJ (S14.right x p N.part);rw[hq,ac.out]at aa;rw[ac.out]at hq;have Hq:=zC hq
        have aG:=zC (fun(x':S14.C) (P:N.comps[k]? = some x') (Z:N.parts[k]? = some p) (h3:S14.right x p C=false)=>(show R=3 by
         rw[←ar.out];refine zG (fun hA=> ?_);have:=hA k x p O hp;rw[ac.out,h3]at this;cases this))
        rw[aO]at a⊢;rw[aN]at a⊢;unfold PV at aa;have an:some 16=some (yB p y).length:=rfl;obtain⟨PQ,am⟩:=zvJ (yB p y);rw[am]at aa ak an;obtain⟨F,ah,_,aj⟩:=al1 wr [x.kind,x.bits,x.limit,x.rate,x.first,x.second] 56;obtain⟨Q,hQ⟩:=zvJ wr.heap.size;have M:Blk F Q [x.kind,x.bits,x.limit,x.rate,x.first,x.second] 56:=by rw[←ah,←hQ];exact Blk.new wr _ _
        have ai:=a.step aj;have B5:=zA hB aj;have aK:=fun(W:World) (b:Below F F W)=>yV ak (zA B5 b);have az:Cells F [(⟨Q,0,none⟩,x.kind),(⟨Q,1,none⟩,x.bits),(⟨Q,2,none⟩,x.limit),(⟨Q,3,none⟩,x.rate),(⟨Q,4,none⟩,x.first),(⟨Q,5,none⟩,x.second),(⟨w,1,none⟩,.slice (some ⟨g2,o2,none⟩) z L.c2),(⟨w,3,none⟩,C)]:=⟨M.cell 0,M.cell 1,M.cell 2,M.cell 3,M.cell 4,M.cell 5,ai.cell 1,ai.cell 3,zT⟩;have B:=fun(W:World) (b:Below F F W)=>aa W (zA B5 b);have aE:=a.cell 0;simp only[lgz]at aE;clear aj a aa am O hp hy hq ak aH;go_wp2_with (first|(rw[ah,hQ])|(rw[ah])|fail);unfold CV zV zhT at B;obtain⟨TT,FF,aL,au,aZ,aX,aU⟩:∃(TT:TypeId) (FF:FuncId),OfV x = .iface TT (.agg #[x.kind,x.bits,x.limit,x.rate,x.first,x.second])∧(∀W,Below F F W→Calls Tryz.prog FF #[.agg #[x.kind,x.bits,x.limit,x.rate,x.first,x.second],.agg PQ.toArray,C] W fun e w'=>e = .returned (.bool q)∧Below W W w')∧(∀ap w,(callFunc FF ap).run Tryz.prog w = .ok (.enter FF ap) w)∧(∀w,(method 384 TT (.agg #[x.kind,x.bits,x.limit,x.rate,x.first,x.second]) "compactor/network.right").run Tryz.prog w = .ok (FF,(.agg #[x.kind,x.bits,x.limit,x.rate,x.first,x.second])) w)∧(∀w,(nilAhead 384 TT (.agg #[x.kind,x.bits,x.limit,x.rate,x.first,x.second]) "compactor/network.right").run Tryz.prog w = .ok (some false) w):=by
         by_cases a:x.kind=0
         ·refine⟨87,144,?_,?_,enters_of Tryz.func144 zk rfl,zkX _,zkH _⟩
          ·unfold OfV CV zV;simp only[a];rfl
          ·intro W b;have:=B W b;simp only[a]at this⊢;exact this
         by_cases v:x.kind=1
         ·refine⟨88,157,?_,?_,enters_of Tryz.func157 zk rfl,zoM _,znC _⟩
          ·unfold OfV CV zV;simp only[v];rfl
          ·intro W b;have:=B W b;simp only[v]at this⊢;exact this
         by_cases J:x.kind=2
         ·refine⟨89,186,?_,?_,enters_of Tryz.func186 zk rfl,zmK _,zlN _⟩
          ·unfold OfV CV zV;simp only[J];rfl
          ·intro W b;have:=B W b;simp only[J]at this⊢;exact this
         by_cases k3:x.kind=3
         ·refine⟨90,202,?_,?_,enters_of Tryz.func202 zk rfl,zmJ _,zlM _⟩
          ·unfold OfV CV zV;simp only[k3];rfl
          ·intro W b;have:=B W b;simp only[k3]at this⊢;exact this
         by_cases k4:x.kind=4
         ·refine⟨91,231,?_,?_,enters_of Tryz.func231 zk rfl,zmL _,zlO _⟩
          ·unfold OfV CV zV;simp only[k4];rfl
          ·intro W b;have:=B W b;simp only[k4]at this⊢;exact this
         by_cases k5:x.kind=5
         ·refine⟨92,239,?_,?_,enters_of Tryz.func239 zk rfl,zqI _,zoT _⟩
          ·unfold OfV CV zV;simp only[k5];rfl
          ·intro W b;have:=B W b;simp only[k5]at this⊢;exact this
         by_cases k6:x.kind=6
         ·refine⟨93,259,?_,?_,enters_of Tryz.func259 zk rfl,zmI _,zlL _⟩
          ·unfold OfV CV zV;simp only[k6];rfl
          ·intro W b;have:=B W b;simp only[k6]at this⊢;exact this
         omega
        have HX:=zC au;clear B au aI;go_wp2_with fail;refine zvL 14 0 [(U,0,1),(U,2,7),(zvE,1,1),(U,9,3),(zvE,12,1),(U,13,1)] (Keeps F [(⟨Q,0,none⟩,x.kind),(⟨Q,1,none⟩,x.bits),(⟨Q,2,none⟩,x.limit),(⟨Q,3,none⟩,x.rate),(⟨Q,4,none⟩,x.first),(⟨Q,5,none⟩,x.second),(⟨w,1,none⟩,.slice (some ⟨g2,o2,none⟩) z L.c2),(⟨w,3,none⟩,C)]) (Keeps.start az) fun Y Q4 F4 hY hF=> ?_;repeat refine mrd ?_
        repeat
         first
          | (apply zaH (by rw[hY];rfl)
             ·intro w2 ag;exact zdB 50 (.tmp 44) by3 g2 (o2+k*16) by3 PQ (aK w2 ag.1) _ Tryz.underlying50 rfl (info_P.trans an)
             simp only[zvF])
          | (apply zaH (by rw[hY];rfl)
             ·intro w2 ag;(try simp only[Keeps,Cells]at ag);go_simp;with_reducible rfl
             simp only[zvF])
        refine mcl ?_;refine mck (Keeps.start az) (HO.out x _) fun w6 aY aw=> ?_;rw[aL];repeat refine mrd ?_
        refine mcl ?_;refine mck aw (HX.out w6 aw.1) fun w7 aW ay=> ?_;repeat refine mrd ?_
        refine mdn hF fun K hK=> ?_;clear hF hY;refine mok hK ?_;clear hK;have B7:=zA B5 ay.1;have aD:=ai.step ay.1;cases q with
        | false=>
          obtain rfl:=aG.out x Hx.out Hp.out Hq.out;exact mf1 B7
        | true=>
          go_wp2;go_roundw
          case rel=>
           refine⟨k+1,by omega,by simp,zC (fun j c' p' hj P Z=> ?_),aD,B7⟩;rcases Nat.lt_succ_iff_lt_or_eq.1 hj with h|rfl
           ·exact ax.out j c' p' h P Z
           ·have T:=Hx.out;rw[P]at T;cases T;have X:=Hp.out;rw[Z]at X;cases X;exact Hq.out
          case measure=>simp[intOf];omega
       ·obtain rfl:k=s:=by omega
        have aJ:R=0:=by
         rw[←ar.out];refine zQ (fun j c p P Z=> ?_);rw[ac.out];exact ax.out j c p (by have:=(List.getElem?_eq_some_iff.1 P).1;have:=ao.out;omega) P Z
        subst aJ;exact mf1 hB
   ·rw[zQ (.inr D)]at d;subst d;have T:((z:Int) != (s:Int))=false:=by simp[t]
    have X:((H:Int) != 16)=true:=by simp;omega
    clear t D;obtain⟨m,n,r,f⟩:=a.c4;go_enter Tryz.func31,Tryz.ntmps31;go_wp2_with (rw[I]);refine ab.out.mono ?_;rintro e w1 ⟨rfl,u⟩;have v:=a.step u;have A:=zA G u;clear m n r f a;have a:=v;obtain⟨m,n,r,f⟩:=a.c4;exact mf1 A
  ·rw[zQ (.inl t)]at d;subst d;have T:((z:Int) != (s:Int))=true:=by simp;omega
   clear t;obtain⟨m,n,r,f⟩:=a.c4;go_enter Tryz.func31,Tryz.ntmps31;go_wp2_with (rw[I]);refine ab.out.mono ?_;rintro e w1 ⟨rfl,u⟩;have v:=a.step u;have A:=zA G u;clear m n r f a;have a:=v;obtain⟨m,n,r,f⟩:=a.c4;exact mf1 A
 ·rw[zQ ad]at d;subst d;have e0:(E != 0)=true:=by simp[ad]
  clear ad;obtain⟨m,n,r,f⟩:=a.c4;go_enter Tryz.func31,Tryz.ntmps31;go_wp2_with (rw[I]);refine ab.out.mono ?_;rintro e w1 ⟨rfl,u⟩;have A:=zA G u;exact mf1 A
def zN:Array Value:=#[.slice none 0 0,.slice none 0 0,.slice none 0 0,.int .i64 0]
theorem info_N:(Tryz.prog.info? 26).map (·.size)=some 4:=by kernel_rfl
def OwnP(w:World)(base:Nat)(a:Option Addr)(c:Nat)(ps:List S14.P)(ys:List Lay):Prop:=w.ownsRow base 50 16 (.slice a ps.length c) ps.length (PCs ps ys)
theorem zfR{w w':World}{a:Nat}{e:TypeId}{f n:Nat}{v:Value}{xs:List Value}{b:Nat}(h:w.ownsRow a e f v n xs)(j:w.grownBy w' (some b))(m:b<a):w'.ownsRow a e f v n xs:=by
 refine⟨h.1,?_⟩;rcases h.2 with c|⟨g,k,l,c,i,d,r⟩
 ·exact .inl c
 ·exact .inr ⟨g,k,l,c,i,(j.block g (Array.getElem?_eq_some_iff.1 d).1 (fun e=>by have:=zI e;omega)).trans d,r⟩
theorem zeS{w:World}{B b:Nat}{e:TypeId}{c n:Nat}{v:Value}{xs:List Value}(h:w.ownsRow B e c v n xs)(d:b≤B):w.ownsRow b e c v n xs:=by
 refine⟨h.1,?_⟩;rcases h.2 with a|⟨g,i,j,a,f,r⟩
 ·exact .inl a
 ·exact .inr ⟨g,i,j,a,yD d f,r⟩
theorem zbS(w:World)(b i:Nat)(v:Value):w.grownBy (w.setCell ⟨b,i,none⟩ v) (some b):=
 ⟨rfl,rfl,rfl,by simp,fun j _ a=>heap_setCell_other w ⟨b,i,none⟩ j v (fun e=>a (by rw[e]))⟩
theorem copied14_any(N:S14.N)(L:NLay)(w:World)(l:NIs N L w)(h1:1≤N.comps.length∧N.comps.length≤16)(h2:N.parts.length=N.comps.length)(h3:N.ctxs.length=16) :
 Calls Tryz.prog 16 #[NV N L] w fun e H=>∃b c f g k j,e = .returned (NV N ⟨b,c,f,g,k,j,L.ys⟩)∧H.ownsRow w.heap.size 56 6 (.slice b N.comps.length c) N.comps.length (zfG N.comps)∧
  OwnP H w.heap.size f g N.parts L.ys∧H.ownsRow w.heap.size 85 1 (.slice k N.ctxs.length j) N.ctxs.length (zlZ N.ctxs)∧Below w w H:=by
 obtain⟨y,q,Q,_⟩:=l.rc (fun e=>by have h:=yG List.length e;rw[zaB,List.length_nil]at h;omega);obtain⟨r,t,U,_⟩:=l.rp (fun e=>by have h:=yG List.length e;rw[zcM _ _ l.ly,List.length_nil]at h;omega);obtain⟨u,x,V,_⟩:=l.rx (fun e=>by have h:=yG List.length e;rw[zbT,List.length_nil]at h;omega);have r1:=l.rc;have r2:=l.rp;have r3:=l.rx;have al:=zcM _ _ l.ly;rw[Q]at r1;rw[U]at r2;rw[V]at r3;have H1:=zC fun(W:World) (E:Below w w W)=>zoI (zfG N.comps) N.comps.length (by rw[zaB,Nat.mul_comm]) (zpC _) y q L.c1 W h1.1 om (r1.step E);have H2:=zC fun(W:World) (E:Below w w W)=>cloneParts14 (PCs N.parts L.ys) N.parts.length (by rw[al,Nat.mul_comm]) (PCs_one _ _) r t L.c2 W om om (r2.step E);have H3:=zC fun(W:World) (E:Below w w W)=>cloneU32s14 (zlZ N.ctxs) N.ctxs.length (by rw[zbT,Nat.mul_one]) (U32s_one _) u x L.c3 W om om (r3.step E);unfold NV zaN OwnP;simp only;rw[Q,U,V];obtain⟨V1,V2,V3,a,T,aa,ab,af⟩:=zz4 (zfG N.comps) (PCs N.parts L.ys) (zlZ N.ctxs) N.comps.length;obtain⟨d,i,G,Z,ad,ag⟩:=zz3 N.parts.length N.ctxs.length N.part;rw[T,af]at H1;rw[aa,Z]at H2;rw[ab,ad]at H3;rw[T,aa,ab,af,Z,ad,ag];clear l r1 r2 r3 T aa ab af Z ad ag h1 h2 h3 al Q U V;obtain⟨m,C⟩:=zvJ ((w.alloc (.cells #[.slice (some ⟨y,q,none⟩) a L.c1,.slice (some ⟨r,t,none⟩) d L.c2,.slice (some ⟨u,x,none⟩) i L.c3,G] 26)).alloc (.cells zN 26));have D:Blk m w [.slice (some ⟨y,q,none⟩) a L.c1,.slice (some ⟨r,t,none⟩) d L.c2,.slice (some ⟨u,x,none⟩) i L.c3,G] 26:=by rw[←C];exact(Blk.new w _ _).alloc _
 have S:Blk m (w.heap.size+1) [.slice none 0 0,.slice none 0 0,.slice none 0 0,.int .i64 0] 26:=by
  rw[←C];have h:=Blk.new (w.alloc (.cells #[.slice (some ⟨y,q,none⟩) a L.c1,.slice (some ⟨r,t,none⟩) d L.c2,.slice (some ⟨u,x,none⟩) i L.c3,G] 26)) [.slice none 0 0,.slice none 0 0,.slice none 0 0,.int .i64 0] 26;rwa[zY]at h
 have M:Below w w m:=by rw[←C];exact((zJ _ _).alloc (zF _) _).alloc by1 _
 have au:=S.lt;unfold zN at C;have P:Cells m [(⟨w,0,none⟩,.slice (some ⟨y,q,none⟩) a L.c1),(⟨w,1,none⟩,.slice (some ⟨r,t,none⟩) d L.c2),(⟨w,2,none⟩,.slice (some ⟨u,x,none⟩) i L.c3)]:=⟨D.cell 0,D.cell 1,D.cell 2,zT⟩;go_enter Tryz.func16,Tryz.ntmps16;go_wp2_with (rw[C]);refine zaO 10 5 (.read 0 (.read 1 (.read 3 (.read 4 (.read 6 (.read 7 (.one 2 (.read 9 (.one 5 (.one 8 .done)))))))))) _ _ o0P (Keeps m [(⟨w,0,none⟩,.slice (some ⟨y,q,none⟩) a L.c1),(⟨w,1,none⟩,.slice (some ⟨r,t,none⟩) d L.c2),(⟨w,2,none⟩,.slice (some ⟨u,x,none⟩) i L.c3)]) zk (zU 10 _).symm zk zk zk zk (Keeps.start P) (fun Y Q4 F4 hY hF=> ?_);simp only[Plan.map,ltc,ltz,ldc,ldz,zdG,zeF];repeat refine mpR ?_
 refine mpC ?_;refine(H1.out _ (zA M (Keeps.start P).1)).mono ?_;rintro e w2 ⟨b,c,rfl,an,ah⟩;have A:=(Keeps.start P).step ah;refine⟨_,rfl,A,?_⟩;simp only[zvF];repeat refine mpR ?_
 refine mpC ?_;refine(H2.out _ (zA M A.1)).mono ?_;rintro e w3 ⟨f,g,rfl,am,ac⟩;have z:=A.step ac;refine⟨_,rfl,z,?_⟩;simp only[zvF];refine mpC ?_;refine(H3.out _ (zA M z.1)).mono ?_;rintro e J ⟨k,j,rfl,aj,I⟩;have s:=z.step I;refine⟨_,rfl,s,?_⟩;simp only[zvF];refine zaT (hF.out _ _ (fun K hK=> ?_));clear hF hY;have z4:=s.1.size;have z3:=z.1.size;have z2:=A.1.size;have av:w.heap.size+1<m.heap.size:=au;have aw:m.drew.heap.size=m.heap.size:=rfl;have p1:=yM (B:=0) (yM (B:=0) an ac) I;have p2:=yM (B:=0) am I;have p3:=aj;have B4:=zA M s.1;have o:=D.step s.1;have kr:=S.step s.1;clear A z s an am aj ah ac I P D S;have s1:=((o.set 0 (.slice b a c)).set 1 (.slice f d g)).set 2 (.slice k i j);have f0:=o.cell 0;have ar:=o.free 0;have f1:=(o.set 0 (.slice b a c)).cell 1;have aq:=(o.set 0 (.slice b a c)).free 1;have f2:=((o.set 0 (.slice b a c)).set 1 (.slice f d g)).cell 2;have ap:=((o.set 0 (.slice b a c)).set 1 (.slice f d g)).free 2;simp only[sC0,sCs,lgz,lgs]at s1 f0 f1 f2;have ao:=((kr.other w.heap.size 0 (.slice b a c) om).other w.heap.size 1 (.slice f d g) om).other w.heap.size 2 (.slice k i j) om
 have R:Below w w (((J.setCell ⟨w,0,none⟩ (.slice b a c)).setCell ⟨w,1,none⟩ (.slice f d g)).setCell ⟨w,2,none⟩ (.slice k i j)):=
  ((B4.setCell (p:=⟨w,0,none⟩) by1 _).setCell (p:=⟨w,1,none⟩) by1 _).setCell (p:=⟨w,2,none⟩) by1 _
 have F:∀{ae:Nat} {e:TypeId} {ai n:Nat} {v:Value} {xs:List Value},J.ownsRow ae e ai v n xs→w.heap.size<ae→(((J.setCell ⟨w,0,none⟩ (.slice b a c)).setCell ⟨w,1,none⟩ (.slice f d g)).setCell ⟨w,2,none⟩ (.slice k i j)).ownsRow ae e ai v n xs:=fun h X=>
  zfR (zfR (zfR h (zbS _ _ _ _) X) (zbS _ _ _ _) X) (zbS _ _ _ _) X
 obtain⟨P1,P2,P3⟩:=zh3 (F p1 om) (F p2 om) (F p3 om);clear p1 p2 p3 F;go_wp2_with fail;refine mok hK ?_;clear hK;obtain⟨w5,ak⟩:=zvJ (((J.setCell ⟨w,0,none⟩ (.slice b a c)).setCell ⟨w,1,none⟩ (.slice f d g)).setCell ⟨w,2,none⟩ (.slice k i j));rw[ak]at s1 ao R P1 P2 P3⊢;clear ak f0 ar f1 aq f2 ap o kr;go_wp2_with (first
  | (refine ld26 (.tmp 1) s1 ?_)
  | (refine st26 (.tmp 2) (.tmp 15) [.slice b a c,.slice f d g,.slice k i j,G] ao ?_;intro wL EL O sL))
 have hL:=lv26 EL;refine rL1 hL ?_;exact⟨b,c,f,g,k,j,rfl,zeS (zfR P1.out O om) om,zeS (zfR P2.out O om) om,zeS (zfR P3.out O om) om,R.trans (yA O om R.size)⟩
def zH:Value:=.agg #[.int .i64 0,.int .i64 0,.int .i64 0,.int .i64 0,.int .i64 0,.int .i64 0]
theorem zhP(v:Value)(w:World):(Instr.typeAssert (.iface 87 v) 64 89 true).run Tryz.prog w = .ok (.tuple #[zH,.bool false]) w:=by kernel_rfl
theorem zjO(v:Value)(w:World):(Instr.typeAssert (.iface 88 v) 64 89 true).run Tryz.prog w = .ok (.tuple #[zH,.bool false]) w:=by kernel_rfl
theorem ziI(v:Value)(w:World):(Instr.typeAssert (.iface 90 v) 64 89 true).run Tryz.prog w = .ok (.tuple #[zH,.bool false]) w:=by kernel_rfl
theorem ziJ(v:Value)(w:World):(Instr.typeAssert (.iface 91 v) 64 89 true).run Tryz.prog w = .ok (.tuple #[zH,.bool false]) w:=by kernel_rfl
theorem zkV(v:Value)(w:World):(Instr.typeAssert (.iface 92 v) 64 89 true).run Tryz.prog w = .ok (.tuple #[zH,.bool false]) w:=by kernel_rfl
theorem ziH(v:Value)(w:World):(Instr.typeAssert (.iface 93 v) 64 89 true).run Tryz.prog w = .ok (.tuple #[zH,.bool false]) w:=by kernel_rfl
theorem zsA(N:S14.N)(L:NLay)(w:World)(P:NIs N L w)(hl:N.comps.length≤16)(K:∀c∈N.comps,0≤c.kind∧c.kind≤6∧c.kind≠2) :
 Calls Tryz.prog 18 #[NV N L] w fun e w'=>e = .returned (NV N L)∧Below w w w':=by
 have R:=zC P;have Y:=zC fun(x:S14.C) W=>(show Calls Tryz.prog 17 #[.agg #[x.kind,x.bits,x.limit,x.rate,x.first,x.second]] W _ from zhG x W);have U:=zC K;unfold NV zaN;obtain⟨d,t,s,q,v,J,M,B⟩:=zz4 N.comps.length N.parts.length N.ctxs.length N.part;rw[v]at hl;rw[v,J,M,B];have T:=zC v;clear v J M B P K;obtain⟨A,n⟩:=zvJ ((w.alloc (.cells #[.slice L.a1 d L.c1,.slice L.a2 t L.c2,.slice L.a3 s L.c3,q] 26)).alloc (.cells zN 26));have b:Blk A w [.slice L.a1 d L.c1,.slice L.a2 t L.c2,.slice L.a3 s L.c3,q] 26:=by rw[←n];exact(Blk.new w _ _).alloc _
 have l:Blk A (w.heap.size+1) [.slice none 0 0,.slice none 0 0,.slice none 0 0,.int .i64 0] 26:=by
  rw[←n];have h:=Blk.new (w.alloc (.cells #[.slice L.a1 d L.c1,.slice L.a2 t L.c2,.slice L.a3 s L.c3,q] 26)) [.slice none 0 0,.slice none 0 0,.slice none 0 0,.int .i64 0] 26;rwa[zY]at h
 have C:Below w w A:=by rw[←n];exact((zJ _ _).alloc (zF _) _).alloc by1 _
 unfold zN at n;have E:=b.cell 0;simp only[lgz]at E;go_enter Tryz.func18,Tryz.ntmps18;go_wp2_with (rw[n]);clear E
 go_loopw [9] (fun i wr=>∃(k:Nat),k≤d∧i = .int .i64 (k:Int)∧Blk wr w [.slice L.a1 d L.c1,.slice L.a2 t L.c2,.slice L.a3 s L.c3,q] 26∧
  Blk wr (w.heap.size+1) [.slice none 0 0,.slice none 0 0,.slice none 0 0,.int .i64 0] 26∧Below w w wr) (fun i _=>d-(intOf i).toNat)
 case atStart=>exact⟨0,by omega,rfl,b,l,C⟩
 case round=>
  clear b l C n;obtain⟨k,hk,rfl,b,l,u⟩:=hrel;by_cases ac:k<d
  ·have ab:(k:Int)<(d:Int):=by omega
   obtain⟨x,y⟩:∃x,N.comps[k]? = some x:=⟨_,zD (by have:=T.out;omega)⟩;obtain⟨g,o,aa,S,X,Q,x3,x4,x5⟩:=(R.out.step u).comp_at y;have f:=U.out x (yF y);rw[aa]at b⊢;have I:Below wr wr (wr.alloc (.cells #[x.kind,x.bits,x.limit,x.rate,x.first,x.second] 56)):=(zJ _ _).alloc (zF _) _;go_wp2_with fail;refine mnb I (Y.out x _) fun w2 V z=> ?_;have p:=zA u z;have j:=b.step z;have m:=l.step z;clear S X Q x3 x4 x5 y b l I V;by_cases G:x.kind=0
   ·have a:OfV x = .iface 87 (.agg #[x.kind,x.bits,x.limit,x.rate,x.first,x.second]):=by
     unfold OfV CV zV;simp only[G];rfl
    rw[a];have r:=zhP (.agg #[x.kind,x.bits,x.limit,x.rate,x.first,x.second]);clear G a f;go_wp2;go_roundw
    case rel=>exact⟨k+1,by omega,by simp,j,m,p⟩
    case measure=>simp[intOf];omega
   by_cases b:x.kind=1
   ·have a:OfV x = .iface 88 (.agg #[x.kind,x.bits,x.limit,x.rate,x.first,x.second]):=by
     unfold OfV CV zV;simp only[b];rfl
    rw[a];have r:=zjO (.agg #[x.kind,x.bits,x.limit,x.rate,x.first,x.second]);clear b a f;go_wp2;go_roundw
    case rel=>exact⟨k+1,by omega,by simp,j,m,p⟩
    case measure=>simp[intOf];omega
   by_cases F:x.kind=3
   ·have a:OfV x = .iface 90 (.agg #[x.kind,x.bits,x.limit,x.rate,x.first,x.second]):=by
     unfold OfV CV zV;simp only[F];rfl
    rw[a];have r:=ziI (.agg #[x.kind,x.bits,x.limit,x.rate,x.first,x.second]);clear F a f;go_wp2;go_roundw
    case rel=>exact⟨k+1,by omega,by simp,j,m,p⟩
    case measure=>simp[intOf];omega
   by_cases D:x.kind=4
   ·have a:OfV x = .iface 91 (.agg #[x.kind,x.bits,x.limit,x.rate,x.first,x.second]):=by
     unfold OfV CV zV;simp only[D];rfl
    rw[a];have r:=ziJ (.agg #[x.kind,x.bits,x.limit,x.rate,x.first,x.second]);clear D a f;go_wp2;go_roundw
    case rel=>exact⟨k+1,by omega,by simp,j,m,p⟩
    case measure=>simp[intOf];omega
   by_cases O:x.kind=5
   ·have a:OfV x = .iface 92 (.agg #[x.kind,x.bits,x.limit,x.rate,x.first,x.second]):=by
     unfold OfV CV zV;simp only[O];rfl
    rw[a];have r:=zkV (.agg #[x.kind,x.bits,x.limit,x.rate,x.first,x.second]);clear O a f;go_wp2;go_roundw
    case rel=>exact⟨k+1,by omega,by simp,j,m,p⟩
    case measure=>simp[intOf];omega
   by_cases H:x.kind=6
   ·have a:OfV x = .iface 93 (.agg #[x.kind,x.bits,x.limit,x.rate,x.first,x.second]):=by
     unfold OfV CV zV;simp only[H];rfl
    rw[a];have r:=ziH (.agg #[x.kind,x.bits,x.limit,x.rate,x.first,x.second]);clear H a f;go_wp2;go_roundw
    case rel=>exact⟨k+1,by omega,by simp,j,m,p⟩
    case measure=>simp[intOf];omega
   omega
  ·obtain rfl:k=d:=by omega
   go_wp2_with (first
    | (refine ld26 (.tmp 1) b ?_)
    | (refine st26 (.tmp 2) (.tmp 43) [.slice L.a1 k L.c1,.slice L.a2 t L.c2,.slice L.a3 s L.c3,q] l ?_;intro wL Z gL sL))
   have hL:=lv26 Z;refine rL1 hL ?_;exact⟨rfl,u.trans (yA gL om u.size)⟩
theorem S14.checkNet_zero{N:S14.N}(h:S14.checkNet N=0):S14.check N.comps=0∧N.parts.length=N.comps.length∧N.ctxs.length=16∧1≤N.part∧N.part≤255∧S14.allRight N:=by
 unfold S14.checkNet at h;split at h
 ·rename_i a;exact absurd h a
 ·rename_i a
  split at h
  ·cases h
  ·rename_i d
   split at h
   ·cases h
   ·rename_i b
    split at h
    ·rename_i c
     have:=S14.has_iff.1 (by simpa using b);exact⟨by simpa using a,by omega,by omega,this.1,this.2,c⟩
    ·cases h
theorem S14.kinds_of{l:List S14.C}(h:S14.check l=0):∀c∈l,0≤c.kind∧c.kind≤6:=fun c b=>by
 obtain⟨k,a⟩:=List.getElem?_of_mem b;have:=(S14.ok_is ((S14.check_zero h).2.2 k c a)).kind;omega
theorem zrZ(N:S14.N)(L:NLay)(w:World)(m:NIs N L w)(o:N.comps.length≤4611686018427387904)(n:zeQ N L w)(q:S14.checkNet N≠0) :
 Calls Tryz.prog 13 #[NV N L] w fun e s=>e = .returned (.tuple #[.slice none 0 0,(S14.checkNet N)])∧Below w w s:=by
 obtain⟨z,f,d,b⟩:=al1 w ((zaN N L)) 26;have a:=zC (zjS N L z (m.step b) o (fun k c p y v A x t W u=>n k c p y v A x t W (zA b u)));obtain⟨R,h⟩:=zvJ (S14.checkNet N);rw[h]at q a⊢;clear n h;unfold NV zaN at a⊢;unfold zaN at d f;obtain⟨F,E,D,B,j,i,l,g⟩:=zz4 N.comps.length N.parts.length N.ctxs.length N.part;rw[j,i,l,g]at a d f⊢;clear j i l g m o;go_enter Tryz.func13,Tryz.ntmps13;go_wp2_with (first
  | (rw[f])
  | (refine ld26 (.tmp 1) d ?_))
 refine a.out.mono ?_;rintro e C ⟨rfl,r⟩;go_wp2_with fail;go_returns;exact⟨rfl,zA b r⟩
theorem zeB(N:S14.N)(L:NLay)(O:Nat→List Int→Int)(w:World)(v:NIs N L w)(H:zeQ N L w)(n:S14.checkNet N=0)(C:zgG N L w O) :
 Calls Tryz.prog 13 #[NV N L] w fun e B=>∃a f,e = .returned (.tuple #[.slice a N.comps.length f,.int .i64 0])∧Rd B a (zaE (S14.outs O N.comps.length))∧(∀g o,a=some ⟨g,o,none⟩→w.heap.size≤g)∧N.comps.length≤f∧Below w w B:=by
 obtain⟨z,P,Q,_,_,_⟩:=S14.checkNet_zero n;have G:=(S14.check_zero z).2.1;have E:N.comps.length≤4611686018427387904:=by omega
 obtain⟨Z,t,b,l⟩:=al1 w ((zaN N L)) 26;have d:=zC (zjS N L Z (v.step l) E (fun k c p y s h2 Y T W i=>H k c p y s h2 Y T W (zA l i)));rw[n]at d;have m:=zC fun(W:World) (i:Below w w W)=>zuH N L O W (v.step i) G (S14.kinds_of z) (fun k c h S a K s=>C k c h S a K (zA i s));clear H n P Q z E C;unfold NV zaN at d m⊢;unfold zaN at b t;obtain⟨nc,np,nx,pt,r,q,u,j⟩:=zz4 N.comps.length N.parts.length N.ctxs.length N.part;rw[r,q,u,j]at d m b t;rw[r,q,u,j];clear q u j v G r;go_enter Tryz.func13,Tryz.ntmps13;go_wp2_with (first
  | (rw[t])
  | (refine ld26 (.tmp 1) b ?_))
 refine d.out.mono ?_;rintro e w2 ⟨rfl,A⟩;have R:=b.step A;have x:=zA l A;clear b;go_wp2_with (first
  | (refine ld26 (.tmp 1) R ?_))
 refine(m.out _ x).mono ?_;rintro e w3 ⟨a,f,rfl,D,F,U,J⟩;have V:=zA x J;have I:=x.size;obtain⟨M,X⟩:=zh2 D F;clear D F;go_wp2_with fail;go_returns;exact⟨a,f,rfl,M.out,fun g o e=>yD I (X.out g o e),U,V⟩
theorem zeR(N:S14.N)(L:NLay)(O:Nat→List Int→Int)(w:World)(C:NIs N L w)(E:zeQ N L w)(n:S14.checkNet N=0)(v:zgG N L w O) :
 Calls Tryz.prog 12 #[NV N L] w fun e J=>e = .returned (.tuple #[.int .i64 (S06.squash ((S14.outs O N.comps.length).getD (N.comps.length-1) 0)),.int .i64 0])∧Below w w J:=by
 obtain⟨F,_⟩:=S14.checkNet_zero n;obtain⟨M,T,_⟩:=S14.check_zero F;obtain⟨Z,s,j,d⟩:=al1 w ((zaN N L)) 26;have f:=zC (zeB N L O Z (C.step d) (fun k c p y r h2 V P W Q=>E k c p y r h2 V P W (zA d Q)) n (fun k c h K a I r=>v k c h K a I (zA d r)));have U:=zC fun x W=>zeX x W;clear E n F v;unfold NV zaN at f⊢;unfold zaN at j s;have u:=S14.outs_length O N.comps.length;obtain⟨X,b,np,nx,D,l,q,t⟩:=zz4 (S14.outs O N.comps.length) N.comps.length N.parts.length N.ctxs.length;obtain⟨pt,m⟩:=zvJ N.part;rw[D]at u f⊢;rw[l]at u M T;rw[l,q,t,m]at f j s;rw[l,q,t,m];clear q t m C l D;go_enter Tryz.func12,Tryz.ntmps12;go_wp2_with (first
  | (rw[s])
  | (refine ld26 (.tmp 1) j ?_))
 refine f.out.mono ?_;rintro e B ⟨a,ac,rfl,A,_,ad,G⟩;obtain⟨g,o,rfl,z⟩:=A.at (i:=b-1) (by unfold zaE;rw[yO];omega);have R:B.cell? ⟨g,o+(b-1),none⟩=some (.int .i64 (X.getD (b-1) 0)):=by
  rw[z (b-1) (by unfold zaE;rw[yO];omega),zK,zD om];simp[zaE]
 have aa:(1:Int)≤(b:Int):=by omega
 have S:((b-1:Nat):Int)=(b:Int)-1:=by omega
 have ab:B.cell? ⟨g,o+((b:Int)-1).toNat*1,none⟩=some (.int .i64 (X.getD (b-1) 0)):=by
  rw[show((b:Int)-1).toNat*1=b-1 by omega];exact R
 have Y:=zA d G;clear A z j S;go_wp2_with fail;refine(U.out _ _).mono ?_;rintro e w3 ⟨rfl,H⟩;go_wp2_with fail;go_returns;exact⟨rfl,zA Y H⟩
structure KepX(X:Nat→Prop)(w w':World):Prop where
 os:w'.os=w.os
 tape:w'.tape=w.tape
 output:w'.output=w.output
 size:w.heap.size≤w'.heap.size
 same:∀k,¬X k→k<w.heap.size→w'.heap[k]? = w.heap[k]?
theorem KepX.refl(X:Nat→Prop)(w:World):KepX X w w:=⟨rfl,rfl,rfl,zF _,fun _ _ _=>rfl⟩
theorem KepX.trans{X:Nat→Prop}{a b c:World}(h:KepX X a b)(k:KepX X b c):KepX X a c:=
 ⟨k.os.trans h.os,k.tape.trans h.tape,k.output.trans h.output,yD h.size k.size,fun i d e=>(k.same i d (zbA e h.size)).trans (h.same i d e)⟩
theorem KepX.below{X:Nat→Prop}{a b:World}(h:Below a a b):KepX X a b:=⟨h.os,h.tape,h.output,h.size,fun k _ c=>h.block k c⟩
theorem KepX.row{X:Nat→Prop}{w w':World}{a:Option Nat}(h:w.grownBy w' a)(d:∀b,a=some b→X b∨w.heap.size≤b):KepX X w w':=
 ⟨h.os,h.tape,h.output,h.size,fun k c f=>h.block k f (fun e=>(d k e.symm).elim c (fun h=>by omega))⟩
theorem KepX.rowB{X:Nat→Prop}{c w w':World}{g:Option Nat}(a:KepX X c w)(h:w.grownBy w' g)(i:∀b,g=some b→X b∨c.heap.size≤b):KepX X c w':=
 ⟨h.os.trans a.os,h.tape.trans a.tape,h.output.trans a.output,yD a.size h.size,fun k d f=>(h.block k (zbA f a.size) (fun e=>(i k e.symm).elim d (fun h=>by omega))).trans (a.same k d f)⟩
theorem KepX.toBelow{X:Nat→Prop}{b w w':World}(h:KepX X w w')(a:Below b b w)(e:∀k,X k→b.heap.size≤k):Below b b w':=
 ⟨h.os.trans a.os,h.tape.trans a.tape,h.output.trans a.output,yD a.size h.size,fun k c=>(h.same k (fun d=>by have:=e k d;omega) (zbA c a.size)).trans (a.block k c)⟩
theorem KepX.mono{X X':Nat→Prop}{w w':World}(h:KepX X w w')(d:∀k,k<w.heap.size→X k→X' k):KepX X' w w':=
 ⟨h.os,h.tape,h.output,h.size,fun k b a=>h.same k (fun c=>b (d k a c)) a⟩
theorem KepX.toKept{X:Nat→Prop}{a c:Nat}{w w':World}(h:KepX X w w')(e:∀k,k<w.heap.size→X k→a≤k∧k<c):Kept a c w w':=
 ⟨h.os,h.tape,h.output,h.size,fun k f b=>h.same k (fun d=>by have:=e k b d;omega) b⟩
theorem Rd.kepX{X:Nat→Prop}{w w':World}{a:Option Addr}{vals:List Value}(h:Rd w a vals)(d:KepX X w w')(k:∀g o,a=some ⟨g,o,none⟩→¬X g):Rd w' a vals:=fun i=>by
 obtain⟨g,o,rfl,f⟩:=h i;refine⟨g,o,rfl,fun j v c=> ?_⟩;have b:=f j v c;have e:=d.same g (k g o rfl) (zE b);unfold World.cell? at b⊢;rw[e];exact b
theorem Blk.kepX{X:Nat→Prop}{w w':World}{b:Nat}{a:List Value}{t:TypeId}(h:Blk w b a t)(c:KepX X w w')(d:¬X b):Blk w' b a t:=by
 have e:=h.lt;unfold Blk at *;rw[c.same b d e];exact h
def PRobX(X:Nat→Prop)(p:S14.P)(y:Lay)(w:World):Prop:=∀w',KepX X w w'→PIs p y w'
theorem PRobX.is{X:Nat→Prop}{p:S14.P}{y:Lay}{w:World}(h:PRobX X p y w):PIs p y w:=h w (KepX.refl _ _)
theorem PRobX.kep{X:Nat→Prop}{p:S14.P}{y:Lay}{w w':World}(h:PRobX X p y w)(a:KepX X w w'):PRobX X p y w':=fun b c=>h b (a.trans c)
theorem PRobX.change{X X':Nat→Prop}{p:S14.P}{y:Lay}{w:World}(h:PRobX X p y w)(a:∀k,k<w.heap.size→X' k→X k):PRobX X' p y w:=fun c b=>h c (b.mono a)
theorem PRobX.append{X X':Nat→Prop}{p:S14.P}{y:Lay}{w w':World}{g:Option Nat}(h:PRobX X p y w)(a:w.grownBy w' g)(j:∀b,g=some b→X b)(m:∀k,k<w.heap.size→X' k→X k):PRobX X' p y w':=fun l c=>
 h l ⟨c.os.trans a.os,c.tape.trans a.tape,c.output.trans a.output,yD a.size c.size,fun k f d=>(c.same k (fun i=>f (m k d i)) (zbA d a.size)).trans (a.block k d (fun e=>f (j k e.symm)))⟩
theorem PRob.toX{a b:Nat}{X:Nat→Prop}{p:S14.P}{y:Lay}{w:World}(h:PRob a b p y w)(c:∀k,k<w.heap.size→X k→a≤k∧k<b):PRobX X p y w:=fun d e=>h d (e.toKept c)
theorem PIs.robX{p:S14.P}{y:Lay}{a w:World}{X:Nat→Prop}(h:PIs p y a)(c:Below a a w)(d:∀k,X k→a.heap.size≤k):PRobX X p y w:=fun e b=>h.step (b.toBelow c d)
theorem zsB{P:Program}{w:World}{o:Oper}{a:Act}(s x:Operand)(t e:TypeId)(h q:Nat)(V:List Value)(l:Nat)
 (r:Elems P t e h q V) (K:o.op = .call {callee:=.builtin .append,args:=#[s,x],argTypes:=#[t,t]})
 (v:Value) (n:Nat) (xs:List Value) (X:a.eval s=v) (D:w.ownsRow l e h v n xs)
 (p:Addr) (m c:Nat) (d:List Value) (C:a.eval x = .slice (some p) m c) (U:d.length=m*h) (O:d≠ []) (W:Rd w (some p) d) (Q:∀u∈d,u.oneCell'=true)
 (J:n+m≤maxLen) (B:(n+m)*q≤140737488355328) (M:l≤w.heap.size) :
 ∃g f k,(execOp a.eval o).run P w = .ok (.value (.slice g (n+m) f)) k∧k.ownsRow l e h (.slice g (n+m) f) (n+m) (xs++d)∧w.grownBy k v.ownBlock∧
  ((Value.slice g (n+m) f).ownBlock=v.ownBlock∨(Value.slice g (n+m) f).ownBlock=some w.heap.size):=by
 obtain⟨i,z,E,F,N,G,H,Z⟩:=r.open;have I:∀j u,d[j]? = some u→w.cell? (p.add j)=some u:=by
  intro j u R;obtain⟨b,Y,S,y⟩:=W O;cases S;rw[Addr.add_mid];exact y j u R
 obtain⟨v',k,y,A,T,h4,L⟩:=run_append_own_at (P:=P) w l t o.type e i z h q r.1 E F N G H r.2.2.2 v n xs D p m c d U I Q J B M;obtain⟨g,f,rfl,_⟩:=zaV A;refine⟨g,f,k,?_,A,T,L⟩;unfold execOp;simp only[K,resolve,invoke,builtin,Sem.run_bind,Sem.run_pure,Result.andThen_ok,List.map_toArray,lmc,lmn,X,C,y]
theorem zcY{P:Program}{Y:Array Value→Nat→Option Bool}{Q:Exit→Act→World→Prop}{S:World→Prop}{o:Oper}{l:List (Bool×Oper)}{a:Act}{G:Act→World→Prop}{w:World}
 (s x:Operand) (t e:TypeId) (g j:Nat) (p:List Value) (i:Nat) (I:Elems P t e g j p)
 (v:Value) (n:Nat) (xs:List Value) (k:Addr) (m cap:Nat) (c:List Value) (B:Region.wanted o (Y a.tmps)=true)
 (D:o.op = .call {callee:=.builtin .append,args:=#[s,x],argTypes:=#[t,t]}) (O:a.eval s=v) (r:a.eval x = .slice (some k) m cap)
 (M:c.length=m*g) (K:c≠ []) (L:∀u∈c,u.oneCell'=true) (C:n+m≤maxLen) (q:(n+m)*j≤140737488355328)
 (A:w.ownsRow i e g v n xs) (N:Rd w (some k) c) (R:i≤w.heap.size)
 (h:∀f d b,b.ownsRow i e g (.slice f (n+m) d) (n+m) (xs++c)→w.grownBy b v.ownBlock→((Value.slice f (n+m) d).ownBlock=v.ownBlock∨(Value.slice f (n+m) d).ownBlock=some w.heap.size)→
   S b∧zcQ P Y Q S G l (a.put o.dst (.slice f (n+m) d)) b):zcQ P Y Q S G ((false,o)::l) a w:=by
 obtain⟨f,d,b,y,z,J,E⟩:=zsB (P:=P) (w:=w) s x t e g j p i I D v n xs O A k m cap c r M K N L C q R;obtain⟨H,F⟩:=h f d b z J E;exact zpE B y H F
theorem zfS{w:World}{g:Nat}{e t:TypeId}{j n b:Nat}{v:Value}{xs i:List Value}(h:w.ownsRow g e j v n xs)(c:Blk w b i t)(d:¬e=t):v.ownBlock≠some b:=by
 intro f;obtain⟨_,k,a⟩:=zbP h f;unfold Blk at c;rw[c]at a;simp only[Option.some.injEq]at a;cases a;exact d rfl
def FreshF(c:S14.C):FuncId:=
 if c.kind=0 then 140 else if c.kind=1 then 153 else if c.kind=2 then 182 else if c.kind=3 then 198 else if c.kind=4 then 227 else if c.kind=5 then 234 else 255
def ztP(l:List S14.C)(F:S14.C→S14.P):Prop:=
 ∀(k:Nat) (c:S14.C),l[k]? = some c→S14.ok c (k:Int)=true→∀W,Calls Tryz.prog (FreshF c) #[CV c] W fun e w'=>∃y,e = .returned (PV (F c) y)∧PRob 0 W.heap.size (F c) y w'∧Below W W w'
def XNew(R NB:Nat)(v:Value)(k:Nat):Prop:=k≤R∨k=NB∨v.ownBlock=some k
def ziX(w:World)(N N':S14.N):Prop:=∀(L:NLay) (W:World) (X:Nat→Prop),Below w w W→(∀k,X k→k<W.heap.size)→(∀W2,KepX X W W2→NIs N L W2)→OwnP W w.heap.size L.a2 L.c2 N.parts L.ys→
 (∀(j:Nat) (p:S14.P) (y:Lay),N.parts[j]? = some p→L.ys[j]? = some y→PRobX (fun k=>X k∨(Value.slice L.a2 N.parts.length L.c2).ownBlock=some k) p y W)→
 (∀g,(Value.slice L.a2 N.parts.length L.c2).ownBlock=some g→¬X g)→
 (∀W2,KepX (fun k=>X k∨(Value.slice L.a2 N.parts.length L.c2).ownBlock=some k) W W2→Rd W2 L.a1 (zfG N.comps)∧Rd W2 L.a3 (zlZ N.ctxs))→
 Calls Tryz.prog 18 #[NV N L] W fun e w'=>∃L',e = .returned (NV N' L')∧(∀W2,KepX X w' W2→NIs N' L' W2)∧KepX (fun k=>(Value.slice L.a2 N.parts.length L.c2).ownBlock=some k) W w'
theorem zkJ(v:Value)(w:World):(nilAhead 384 87 v "compactor/network.fresh").run Tryz.prog w = .ok (some false) w:=by kernel_rfl
theorem zkZ(v:Value)(w:World):(method 384 87 v "compactor/network.fresh").run Tryz.prog w = .ok (140,v) w:=by kernel_rfl
theorem znF(v:Value)(w:World):(nilAhead 384 88 v "compactor/network.fresh").run Tryz.prog w = .ok (some false) w:=by kernel_rfl
theorem zoP(v:Value)(w:World):(method 384 88 v "compactor/network.fresh").run Tryz.prog w = .ok (153,v) w:=by kernel_rfl
theorem zlV(v:Value)(w:World):(nilAhead 384 89 v "compactor/network.fresh").run Tryz.prog w = .ok (some false) w:=by kernel_rfl
theorem zmS(v:Value)(w:World):(method 384 89 v "compactor/network.fresh").run Tryz.prog w = .ok (182,v) w:=by kernel_rfl
theorem zlU(v:Value)(w:World):(nilAhead 384 90 v "compactor/network.fresh").run Tryz.prog w = .ok (some false) w:=by kernel_rfl
theorem zmR(v:Value)(w:World):(method 384 90 v "compactor/network.fresh").run Tryz.prog w = .ok (198,v) w:=by kernel_rfl
theorem zlW(v:Value)(w:World):(nilAhead 384 91 v "compactor/network.fresh").run Tryz.prog w = .ok (some false) w:=by kernel_rfl
theorem zmT(v:Value)(w:World):(method 384 91 v "compactor/network.fresh").run Tryz.prog w = .ok (227,v) w:=by kernel_rfl
theorem zoZ(v:Value)(w:World):(nilAhead 384 92 v "compactor/network.fresh").run Tryz.prog w = .ok (some false) w:=by kernel_rfl
theorem zqO(v:Value)(w:World):(method 384 92 v "compactor/network.fresh").run Tryz.prog w = .ok (234,v) w:=by kernel_rfl
theorem zlT(v:Value)(w:World):(nilAhead 384 93 v "compactor/network.fresh").run Tryz.prog w = .ok (some false) w:=by kernel_rfl
theorem zmQ(v:Value)(w:World):(method 384 93 v "compactor/network.fresh").run Tryz.prog w = .ok (255,v) w:=by kernel_rfl
theorem zpO{α:Type}{l:List α}{k:Nat}{x:α}(h:l[k]? = some x):l.take (k+1)=l.take k ++ [x]:=by
 rw[List.take_add_one,h];rfl
theorem PVals_16(p:S14.P)(y:Lay):∃e b i f k o a n m c d g h q j l,yB p y = [e,b,i,f,k,o,a,n,m,c,d,g,h,q,j,l]:=⟨_,_,_,_,_,_,_,_,_,_,_,_,_,_,_,_,rfl⟩
theorem PCs_snoc(ps:List S14.P):∀(a:List Lay) (p:S14.P) (y:Lay),a.length=ps.length→PCs (ps ++ [p]) (a ++ [y])=PCs ps a++yB p y:=by
 induction ps with
 | nil=>
   intro a p y h;cases a with
   | nil=>
     obtain⟨V,c⟩:=zvJ (yB p y);have e:PCs ([] ++ [p]) ([] ++ [y])=yB p y ++ []:=rfl;have b:PCs ([]:List S14.P) [] = []:=rfl;rw[e,b,c,List.append_nil,List.nil_append]
   | cons z a=>simp at h
 | cons q ps d=>
   intro a p y h;cases a with
   | nil=>simp at h
   | cons z a=>
     have e:PCs (q::ps ++ [p]) (z::a ++ [y])=yB q z++PCs (ps ++ [p]) (a ++ [y]):=rfl;have b:PCs (q::ps) (z::a)=yB q z++PCs ps a:=rfl;rw[e,b,d a p y (by simpa using h),List.append_assoc]
theorem mk16(w:World):(Instr.makeSlice 24 (.int .i64 16) (.int .i64 16)).run Tryz.prog w = .ok (.slice (some ⟨w,0,none⟩) 16 16) (w.alloc (.cells (List.replicate 16 (.int .u32 0)).toArray 85)):=by
 obtain⟨i,a,h,j,c,k,l,f⟩:=elems_u32.open;have b:=run_make (P:=Tryz.prog) w 24 85 i a elems_u32.1 h j .i64 .i64 16 16 om om (by rw[k];omega) om;have e:a.cells = #[.int .u32 0]:=by
  apply Array.ext';rw[f]
 have g:madeCells a.cells (16*i.size)=(List.replicate 16 (Value.int .u32 0)).toArray:=by
  rw[c,Nat.mul_one,e];apply Array.ext';rw[toList_madeCells_one]
 have d:(16:Int).toNat=16:=rfl;rw[d,g]at b;exact b
theorem zmF(l:List S14.C)(F:S14.C→S14.P)(N':S14.N)(a:Option Addr)(cap:Nat)(w:World)(aj:Rd w a (zfG l))(aJ:S14.check l=0)(HF:ztP l F)(aY:ziX w ⟨l,l.map F,List.replicate 16 0,1⟩ N') :
 Calls Tryz.prog 10 #[.slice a l.length cap] w fun e w'=>∃L,e = .returned (.tuple #[NV N' L,.int .i64 0])∧(∀W,KepX (fun k=>k<w.heap.size) w' W→NIs N' L W)∧Below w w w':=by
 obtain⟨bw,bU,aR⟩:=S14.check_zero aJ;obtain⟨g,o,rfl,aG⟩:=aj (fun e=>by have h:=yG List.length e;rw[zaB,List.length_nil]at h;omega)
 have HC:=zC fun(W:World) (hW:Below w w W)=>(show Calls Tryz.prog 28 #[.slice (some ⟨g,o,none⟩) l.length cap] W fun e w'=>e = .returned (.int .i64 0)∧Below W W w' by
  have:=zrD l (some ⟨g,o,none⟩) cap W om (aj.step hW);rwa[aJ]at this)
 have aM:=zC fun(W:World) (hW:Below w w W)=>zoI (zfG l) l.length (by rw[zaB,Nat.mul_comm]) (zpC _) g o cap W bw om (aj.step hW);have HO:=zC fun(x:S14.C) W=>(show Calls Tryz.prog 17 #[.agg #[x.kind,x.bits,x.limit,x.rate,x.first,x.second]] W _ from zhG x W);obtain⟨bP,bz,bR,bN⟩:=zh4 HF aR aY aj;obtain⟨J,az⟩:=zvJ l.length;rw[az]at HC aM bw bU;have H:=zC az;rw[az];clear aj aG aJ HF aY aR az;obtain⟨W1,ak⟩:=zvJ (w.alloc (.cells zN 26));have k1:Blk W1 w [.slice none 0 0,.slice none 0 0,.slice none 0 0,.int .i64 0] 26:=by rw[←ak];exact Blk.new w _ _
 have B1:Below w w W1:=by rw[←ak];exact(zJ _ _).alloc (zF _) _
 unfold zN at ak;go_enter Tryz.func10,Tryz.ntmps10;go_wp2_with (rw[ak]);refine(HC.out _ B1).mono ?_;rintro e z ⟨rfl,aB⟩;have k2:=k1.step aB;have B2:=zA B1 aB;clear k1 B1 aB ak;go_wp2_with fail;have bQ:=B2.size;have bL:=k2.lt;obtain⟨D,hD⟩:=zvJ z.heap.size;rw[hD]at bQ bL;refine zaO 5 1 (.read 0 (.two (.one 1 (.two (.one 2 (.read 3 (.one 4 .done))) (.one 4 (.one 2 (.read 3 .done))))) (.two (.one 2 (.two (.one 1 (.read 3 (.one 4 .done))) (.one 4 (.one 1 (.read 3 .done))))) (.one 4 (.two (.one 1 (.one 2 (.read 3 .done))) (.one 2 (.one 1 (.read 3 .done)))))))) _ _ o0P (fun K=>Below z z K) zk (zU 5 _).symm zk zk zk zk ((zJ _ _).drew) (fun Y Q4 F4 hY hF=> ?_);simp only[Plan.map,ltc,ltz,ldc,ldz,zdG,zeF];repeat refine mpR ?_
 have s:Below z z z.drew:=(zJ _ _).drew;obtain⟨v,hv⟩:=zvJ z.drew;rw[hv]at s⊢;clear hv;have bX:=mk16;apply share4 (F:=F4) (fun(b1:Option Addr) (P X f:Nat) C=>Below z z C∧C.ownsRow D 56 6 (.slice b1 J P) J (zfG l)∧Blk C X (List.replicate 16 (.int .u32 0)) 85∧Blk C f [.slice none 0 0,.slice none 0 0,.slice none 0 0,.int .i64 0] 26∧D≤X∧D≤f∧X≠f)
 case b=>
  intro bM
  repeat' first
   | refine zbV ?_ ?_
   | (apply zcR (by rw[hY];rfl)
      ·intro z cb;go_simp;with_reducible rfl
      simp only[zvF])
   | (refine zfN (fun b=>.slice (some ⟨b,0,none⟩) 16 16) (List.replicate 16 (.int .u32 0)) 85 (by rw[hY];rfl) (by go_simp;first|done|fail) ?_;intro X v' hX R d;have zX:z.heap.size≤X:=by rw[←hX];exact s.size
      (try have aT:X≠f:=by have:=N.lt;omega);have s:=zA s d;(try have ae:=yM (B:=0) ae d);(try have N:=N.step d);clear d hX;refine⟨s,?_⟩;simp only[zvF])
   | (refine zfN (fun b=>.pointer (some ⟨b,0,none⟩)) [.slice none 0 0,.slice none 0 0,.slice none 0 0,.int .i64 0] 26 (by rw[hY];rfl) (by go_simp;first|done|fail) ?_;intro f v' bn N d;have zN:z.heap.size≤f:=by rw[←bn];exact s.size
      (try have aT:X≠f:=by have:=R.lt;omega);have s:=zA s d;(try have ae:=yM (B:=0) ae d);(try have R:=R.step d);clear d bn;refine⟨s,?_⟩;simp only[zvF])
   | (apply zbR (by rw[hY];rfl)
      ·go_simp;with_reducible exact⟨rfl,rfl⟩
      refine Calls.mono (aM.out _ (zA B2 s)) ?_;rintro e v' ⟨q1,P,rfl,ae,d⟩;have ae:=zeS ae (show D≤_ by rw[←hD];exact s.size);have s:=zA s d;(try have R:=R.step d);(try have N:=N.step d);clear d;refine⟨_,rfl,s,?_⟩;simp only[zvF])
   | exact zaT (bM q1 P X f _ ⟨s,ae,R,N,hD▸zX,hD▸zN,aT⟩)
 intro b1 P X f C hR;obtain⟨al,q,R,N,n,m,h3⟩:=hR;refine hF.out _ _ (fun K hK=> ?_);clear hF hY HC aM s bX;refine st26 (.tmp 5) (.tmp 17) [.slice b1 J P,.slice none 0 0,.slice (some ⟨X,0,none⟩) 16 16,.int .i64 1] N ?_;intro O EL gL sL;go_wp2_with fail;refine mok hK ?_;clear hK;have aS:X≠f:=h3;have aO:Blk O X (List.replicate 16 (.int .u32 0)) 85:=R.keptRow gL (by simpa using h3);have a8:=zfS q N by2;have B6:=zA B2 al;have BL:Below w w O:=B6.trans (yA gL om B6.size);obtain⟨V,br,ca,aI,bf,bi⟩:∃V,b1=some ⟨V,0,none⟩∧D≤V∧Rd O b1 (zfG l)∧V≠f∧J≤P∧P≤maxLen:=by
  rcases q.2 with⟨e,e2⟩|⟨g2,ce,cf,e,bK,b6,h5,h6,_⟩
  ·omega
  ·simp only[Value.slice.injEq]at e;obtain⟨rfl,_,rfl⟩:=e;have be:g2≠f:=fun e=>a8 (by rw[e];rfl);refine⟨g2,rfl,bK,?_,be,h5,h6⟩;exact Rd.kepX (X:=fun k=>k=f) (Rd.of_owns q) (KepX.row gL (fun b e=>.inl (zI e).symm)) (fun g o e=>by cases e;exact be)
 have bZ:V<O.heap.size:=by
  obtain⟨g2,o2,e2,aG⟩:=aI (fun e=>by have h:=yG List.length e;have:=H.out;rw[zaB,List.length_nil]at h;omega);rw[br]at e2;cases e2;obtain⟨v0,bO⟩:∃v,(zfG l)[0]? = some v:=⟨_,zD (by have:=H.out;rw[zaB];omega)⟩;exact zE (aG 0 v0 bO)
 have bY:Blk O w [.slice none 0 0,.slice none 0 0,.slice none 0 0,.int .i64 0] 26:=(k2.step al).keptRow gL by7;have a1:=zC aI;have bA:=aO.lt;have a2:=EL.lt;obtain⟨G,hG⟩:=zvJ O.heap.size;rw[hG]at bZ bA a2;have bE:w.heap.size≤G:=by rw[←hG];exact BL.size
 clear q a8 aI N R gL sL k2 B2 al B6 h3;subst br;go_wp2_with fail
 go_loopw [20] (fun i wr=>∃(k:Nat) (a:Option Addr) (c:Nat) (u:List Lay),k≤J∧i = .int .i64 (k:Int)∧u.length=k∧Hid (wr.ownsRow G 50 16 (.slice a k c) k (PCs ((l.take k).map F) u))∧
  Blk wr f [.slice (some ⟨V,0,none⟩) J P,.slice a k c,.slice (some ⟨X,0,none⟩) 16 16,.int .i64 1] 26∧KepX (fun k=>k=f) O wr∧
  Hid (∀(j:Nat) (p:S14.P) (y:Lay),((l.take k).map F)[j]? = some p→u[j]? = some y→PRobX (XNew w.heap.size f (.slice a k c)) p y wr)) (fun i _=>J-(intOf i).toNat)
 case atStart=>exact⟨0,none,0,[],by omega,rfl,rfl,zC (World.ownsRow_nil O _ _ _),EL,KepX.refl _ _,zC (fun j p y h=>by simp at h)⟩
 case round=>
  clear EL;obtain⟨k,a,c,u,hk,rfl,an,q,EB,I,ah⟩:=hrel;have bC:G≤wr.heap.size:=by rw[←hG];exact I.size
  have ay:Below w w wr:=I.toBelow BL (fun k e=>by omega);by_cases b4:k<J
  ·have b3:(k:Int)<(J:Int):=by omega
   obtain⟨x,E⟩:∃x,l[k]? = some x:=⟨_,zD (by have:=H.out;omega)⟩;obtain⟨g1,o1,e1,bb⟩:=(bN.out.step ay) (fun e=>by have h:=yG List.length e;have:=H.out;rw[zaB,List.length_nil]at h;omega);cases e1;obtain⟨x0,x1,x2,x3,x4,x5⟩:=zoF bb E;have aQ:=bz.out k x E;have b8:=(S14.ok_is aQ).kind;obtain⟨T,Hx⟩:=zh2 (bP.out k x E aQ) E;have b9:g<wr.heap.size:=zE x0;obtain⟨A,aN,_,ai⟩:=al1 wr [x.kind,x.bits,x.limit,x.rate,x.first,x.second] 56;obtain⟨Q,hQ⟩:=zvJ wr.heap.size;have kQ:Blk A Q [x.kind,x.bits,x.limit,x.rate,x.first,x.second] 56:=by rw[←aN,←hQ];exact Blk.new wr _ _
   have bt:=EB.step ai;have bD:=I.trans (KepX.below ai);have af:G≤A.heap.size:=yD bC ai.size;obtain⟨aK,a5⟩:=zh2 (yM (B:=0) q.out ai) (show∀(j:Nat) (p:S14.P) (y:Lay),((l.take k).map F)[j]? = some p→u[j]? = some y→PRobX (XNew w.heap.size f (.slice a k c)) p y A from fun j p y n m=>(ah.out j p y n m).kep (KepX.below ai))
   have bu:Cells A [(⟨Q,0,none⟩,x.kind),(⟨Q,1,none⟩,x.bits),(⟨Q,2,none⟩,x.limit),(⟨Q,3,none⟩,x.rate),(⟨Q,4,none⟩,x.first),(⟨Q,5,none⟩,x.second),(⟨f,1,none⟩,.slice a k c)]:=
    ⟨kQ.cell 0,kQ.cell 1,kQ.cell 2,kQ.cell 3,kQ.cell 4,kQ.cell 5,bt.cell 1,zT⟩
   clear ai q ah EB I bb aQ E;go_wp2_with (first|(rw[aN,hQ])|(rw[aN])|fail);clear x0 x1 x2 x3 x4 x5;unfold FreshF CV zV at T;obtain⟨TT,FF,bS,bg,ci,b7,b5⟩:∃(TT:TypeId) (FF:FuncId),OfV x = .iface TT (.agg #[x.kind,x.bits,x.limit,x.rate,x.first,x.second])∧(∀W,Calls Tryz.prog FF #[.agg #[x.kind,x.bits,x.limit,x.rate,x.first,x.second]] W fun e w'=>∃y,e = .returned (PV (F x) y)∧PRob 0 W.heap.size (F x) y w'∧Below W W w')∧(∀a4 w,(callFunc FF a4).run Tryz.prog w = .ok (.enter FF a4) w)∧(∀w,(method 384 TT (.agg #[x.kind,x.bits,x.limit,x.rate,x.first,x.second]) "compactor/network.fresh").run Tryz.prog w = .ok (FF,(.agg #[x.kind,x.bits,x.limit,x.rate,x.first,x.second])) w)∧(∀w,(nilAhead 384 TT (.agg #[x.kind,x.bits,x.limit,x.rate,x.first,x.second]) "compactor/network.fresh").run Tryz.prog w = .ok (some false) w):=by
    by_cases k0:x.kind=0
    ·refine⟨87,140,?_,?_,enters_of Tryz.func140 zk rfl,zkZ _,zkJ _⟩
     ·unfold OfV CV zV;simp only[k0];rfl
     ·intro W;have:=T.out W;simp only[k0]at this⊢;exact this
    by_cases k1:x.kind=1
    ·refine⟨88,153,?_,?_,enters_of Tryz.func153 zk rfl,zoP _,znF _⟩
     ·unfold OfV CV zV;simp only[k1];rfl
     ·intro W;have:=T.out W;simp only[k1]at this⊢;exact this
    by_cases k2:x.kind=2
    ·refine⟨89,182,?_,?_,enters_of Tryz.func182 zk rfl,zmS _,zlV _⟩
     ·unfold OfV CV zV;simp only[k2];rfl
     ·intro W;have:=T.out W;simp only[k2]at this⊢;exact this
    by_cases k3:x.kind=3
    ·refine⟨90,198,?_,?_,enters_of Tryz.func198 zk rfl,zmR _,zlU _⟩
     ·unfold OfV CV zV;simp only[k3];rfl
     ·intro W;have:=T.out W;simp only[k3]at this⊢;exact this
    by_cases k4:x.kind=4
    ·refine⟨91,227,?_,?_,enters_of Tryz.func227 zk rfl,zmT _,zlW _⟩
     ·unfold OfV CV zV;simp only[k4];rfl
     ·intro W;have:=T.out W;simp only[k4]at this⊢;exact this
    by_cases k5:x.kind=5
    ·refine⟨92,234,?_,?_,enters_of Tryz.func234 zk rfl,zqO _,zoZ _⟩
     ·unfold OfV CV zV;simp only[k5];rfl
     ·intro W;have:=T.out W;simp only[k5]at this⊢;exact this
    by_cases k6:x.kind=6
    ·refine⟨93,255,?_,?_,enters_of Tryz.func255 zk rfl,zmQ _,zlT _⟩
     ·unfold OfV CV zV;simp only[k6];rfl
     ·intro W;have:=T.out W;simp only[k6]at this⊢;exact this
    omega
   have HX:=zC bg;clear bg T;go_wp2_with fail;refine zvL 7 2 [(U,0,3),(zvE,3,1),(zvE,4,1),(zvE,5,1),(zvE,6,1)] (fun K=>Below G A K∧Cells K [(⟨Q,0,none⟩,x.kind),(⟨Q,1,none⟩,x.bits),(⟨Q,2,none⟩,x.limit),(⟨Q,3,none⟩,x.rate),(⟨Q,4,none⟩,x.first),(⟨Q,5,none⟩,x.second),(⟨f,1,none⟩,.slice a k c)]) (⟨((zJ _ _).drew).mono af,bu⟩) fun Y Q4 F4 hY hF=> ?_;repeat refine mrd ?_
   refine mcl ?_;refine(HO.out x _).mono ?_;rintro e C ⟨rfl,al⟩;have ax:Below A A C:=zA ((zJ _ _).drew) al;have ba:Cells C [(⟨Q,0,none⟩,x.kind),(⟨Q,1,none⟩,x.bits),(⟨Q,2,none⟩,x.limit),(⟨Q,3,none⟩,x.rate),(⟨Q,4,none⟩,x.first),(⟨Q,5,none⟩,x.second),(⟨f,1,none⟩,.slice a k c)]:=Cells.step ax bu;refine⟨_,rfl,⟨ax.mono af,ba⟩,?_⟩;simp only[zvF];rw[bS];refine mcl ?_;refine(HX.out C).mono ?_;rintro e t ⟨y,rfl,bm,aF⟩;have bh:Cells t [(⟨Q,0,none⟩,x.kind),(⟨Q,1,none⟩,x.bits),(⟨Q,2,none⟩,x.limit),(⟨Q,3,none⟩,x.rate),(⟨Q,4,none⟩,x.first),(⟨Q,5,none⟩,x.second),(⟨f,1,none⟩,.slice a k c)]:=Cells.step aF ba;have a3:Below A A t:=zA ax aF;refine⟨_,rfl,⟨a3.mono af,bh⟩,?_⟩;simp only[zvF];have aa:Below t t (t.alloc (.cells (yB (F x) y).toArray 50)):=(zJ _ _).alloc (zF _) _;have S:=zA a3 aa;have bx:=Cells.step aa bh;have ac:=zC (yM (B:=0) aK.out S);have aH:Hid (Rd (t.alloc (.cells (yB (F x) y).toArray 50)) (some ⟨t,0,none⟩) (yB (F x) y)):=zC (fun _=>⟨_,0,rfl,(Blk.new t (yB (F x) y) 50).cells⟩);have aD:=bt.step S;have aL:=kQ.step S;have aP:G≤(t.alloc (.cells (yB (F x) y).toArray 50)).heap.size:=yD af S.size;have cc:C.heap.size≤t.heap.size:=aF.size;have ch:A.heap.size≤C.heap.size:=ax.size;have aC:Hid (PRob 0 C.heap.size (F x) y (t.alloc (.cells (yB (F x) y).toArray 50))):=zC (bm.kept (Kept.below aa));unfold PV;obtain⟨v0,v1,v2,v3,v4,v5,v6,v7,v8,v9,ar,aw,av,ap,aq,aA,aE⟩:=PVals_16 (F x) y;rw[aE]at aa S bx ac aH aD aL aP aC⊢;have bs:=zC aE;clear aE bm;refine mvl ((show Below G A (t.alloc (.cells #[v0,v1,v2,v3,v4,v5,v6,v7,v8,v9,ar,aw,av,ap,aq,aA] 50))∧Cells (t.alloc (.cells #[v0,v1,v2,v3,v4,v5,v6,v7,v8,v9,ar,aw,av,ap,aq,aA] 50)) [(⟨Q,0,none⟩,x.kind),(⟨Q,1,none⟩,x.bits),(⟨Q,2,none⟩,x.limit),(⟨Q,3,none⟩,x.rate),(⟨Q,4,none⟩,x.first),(⟨Q,5,none⟩,x.second),(⟨f,1,none⟩,.slice a k c)]from⟨S.mono af,bx⟩)) ?_;generalize t.alloc (.cells #[v0,v1,v2,v3,v4,v5,v6,v7,v8,v9,ar,aw,av,ap,aq,aA] 50)=w8 at *;refine zcY (.tmp 25) (.tmp 29) 23 50 16 240 _ G zkB (.slice a k c) k (PCs ((l.take k).map F) u) ⟨t,0,none⟩ 1 1 [v0,v1,v2,v3,v4,v5,v6,v7,v8,v9,ar,aw,av,ap,aq,aA] (by rw[hY];rfl) rfl rfl rfl rfl by1 (bs.out▸zbC (F x) y) by5 om ac.out aH.out aP ?_;intro a9 Z w9 aX ag bd;have aW:=zfS ac.out aD by2;have bl:=zfS ac.out aL by2;have am:=aD.keptRow ag (Ne.symm aW);have ad:=aL.keptRow ag (Ne.symm bl);have bB:Below G w8 w9:=Below.grown (zJ _ _) ag aP (fun r e=>(zbP ac.out e).1);have a6:Below G A w9:=(S.mono af).trans bB;have bp:KepX (fun k=>k=f) O w8:=bD.trans (KepX.below S);have a7:KepX (fun k=>k=f) O w9:=bp.rowB ag (fun b e=>.inr (by rw[hG];exact(zbP ac.out e).1))
   have bo:Hid (w9.ownsRow G 50 16 (.slice a9 (k+1) Z) (k+1) (PCs ((l.take (k+1)).map F) (u ++ [y]))):=zC (by
    rw[zpO Hx.out,List.map_append,List.map_cons,List.map_nil,PCs_snoc _ _ _ _ (by rw[an,yO,yJ];have:=H.out;omega),bs.out];exact aX)
   have bq:Hid (∀(j:Nat) (p:S14.P) (M:Lay),((l.take (k+1)).map F)[j]? = some p→(u ++ [y])[j]? = some M→PRobX (XNew w.heap.size f (.slice a9 (k+1) Z)) p M w9):=zC (fun j p M n m=>by
    have h8:PRobX (XNew w.heap.size f (.slice a k c)) p M w8:=by
     rw[zpO Hx.out,List.map_append,List.map_cons,List.map_nil]at n;have bJ:((l.take k).map F).length=k:=by rw[yO,yJ];have:=H.out;omega
     rcases Nat.lt_trichotomy j k with hj|hj|hj
     ·rw[zbH om]at n m;exact(a5.out j p M n m).kep (KepX.below S)
     ·subst hj;rw[yK om,bJ,Nat.sub_self]at n;rw[yK om,an,Nat.sub_self]at m;simp only[lgz,Option.some.injEq]at n m;subst n;subst m;refine aC.out.toX (fun b _ d=>⟨zfY _,?_⟩);rcases d with d|rfl|d
      ·omega
      ·omega
      ·have:=(aK.out.lt b d).2;omega
     ·rw[yK om,yY by7]at n;cases n
    exact h8.append ag (fun b e=>.inr (.inr e)) (fun b d E=>by
     rcases E with h|h|h
     ·exact .inl h
     ·exact .inr (.inl h)
     ·rcases bd with e|e
      ·exact .inr (.inr (e▸h))
      ·rw[e]at h;cases h;omega))
   have cd:=a6.size;clear aX ag bd aW bl bp aC a5 aK ac aH;refine⟨⟨a6,ad.cell 0,ad.cell 1,ad.cell 2,ad.cell 3,ad.cell 4,ad.cell 5,am.cell 1,zT⟩,?_⟩;simp only[zvF];refine mdn hF fun K hK=> ?_;clear hF hY;have f1:=am.cell 1;have bH:=am.free 1;have aU:=am.set 1 (.slice a9 (k+1) Z);simp only[sC0,sCs,lgz,lgs]at f1 aU;go_wp2_with fail;refine mok hK ?_;clear hK;have au:=zbS w9 f 1 (.slice a9 (k+1) Z);have bI:=a7.trans (KepX.row au (fun b e=>.inl (zI e).symm));have b0:=zC (zfR bo.out au a2);have b2:=zC (show∀(j:Nat) (p:S14.P) (M:Lay),((l.take (k+1)).map F)[j]? = some p→(u ++ [y])[j]? = some M→PRobX (XNew w.heap.size f (.slice a9 (k+1) Z)) p M (w9.setCell ⟨f,1,none⟩ (.slice a9 (k+1) Z))from fun j p M n m=>(bq.out j p M n m).kep (KepX.row au (fun b e=>.inl (.inr (.inl (zI e).symm)))));generalize w9.setCell ⟨f,1,none⟩ (.slice a9 (k+1) Z)=cg at *;clear bo bq au f1 bH a7 am ad;go_wp2;go_roundw
   case rel=>exact⟨k+1,a9,Z,u ++ [y],by omega,by simp,by rw[zaG,an];rfl,b0,aU,bI,b2⟩
   case measure=>simp[intOf];omega
  ·obtain rfl:k=J:=by omega
   obtain⟨bW,bG⟩:k≤c∧c≤maxLen:=by
    obtain⟨a0,c0,e,n,m⟩:=zaV q.out;simp only[Value.slice.injEq]at e;omega
   have aV:l.take k=l:=List.take_of_length_le (by rw[H.out];exact zF _);have bj:=bY.kepX I om;rw[aV]at q ah;have ab:(l.map F).length=k:=by rw[yO];exact H.out
   have bk:∀W2,KepX (fun k=>k≤w.heap.size) wr W2→NIs ⟨l,l.map F,List.replicate 16 0,1⟩ ⟨some ⟨V,0,none⟩,P,a,c,some ⟨X,0,none⟩,16,u⟩ W2:=fun W2 m=>
    {rc:=(a1.out.kepX I (fun g o e=>by cases e;exact bf)).kepX m (fun g o e=>by cases e;omega)
     rp:=(Rd.of_owns q.out).kepX m (fun g o e=>by
      have:=(q.out.lt g (by rw[e];rfl)).1;omega)
     rx:=(show Rd wr (some ⟨X,0,none⟩) (zlZ (List.replicate 16 0))from fun _=>⟨X,0,rfl,(aO.kepX I aS).cells⟩).kepX m (fun g o e=>by cases e;omega)
     ly:=by rw[an];exact ab.symm
     ps:=fun j p y n h3=>((ah.out j p y n h3).change (fun b _ d=>.inl d)).kep m |>.is
     xs:=fun x E=>by have:=List.eq_of_mem_replicate E;omega
     l1:=⟨by show l.length≤_;rw[H.out];exact bi.1,bi.2⟩
     l2:=⟨by show(l.map F).length≤_;rw[ab];exact bW,bG⟩
     l3:=⟨by simp,by simp⟩}
   have ao:=bR.out ⟨some ⟨V,0,none⟩,P,a,c,some ⟨X,0,none⟩,16,u⟩ wr (fun k=>k≤w.heap.size) ay (fun k e=>by have e:k≤w.heap.size:=e;omega) bk (by
    show wr.ownsRow w.heap.size 50 16 (.slice a (l.map F).length c) (l.map F).length (PCs (l.map F) u)
    rw[ab];exact zeS q.out bE) (fun j p y n h3=>(ah.out j p y n h3).change (fun b _ d=>by
     rcases d with h|h
     ·exact .inl h
     ·refine .inr (.inr ?_);have h:(Value.slice a (l.map F).length c).ownBlock=some b:=h;rwa[ab]at h)) (fun b d=>by
     show¬b≤w.heap.size;have d:(Value.slice a (l.map F).length c).ownBlock=some b:=d;rw[ab]at d;have:=(q.out.lt b d).1;omega) (fun W2 m=>by
     have m:KepX (fun k=>k≤w.heap.size∨(Value.slice a (l.map F).length c).ownBlock=some k) wr W2:=m;rw[ab]at m
     exact⟨(a1.out.kepX I (fun g o e=>by cases e;exact bf)).kepX m (fun g o e=>by cases e;exact fun h=>h.elim (fun h=>by have h:V≤w.heap.size:=h;omega) (fun h=>by have:=(q.out.lt _ h).1;omega)),
      (show Rd wr (some ⟨X,0,none⟩) (zlZ (List.replicate 16 0))from fun _=>⟨X,0,rfl,(aO.kepX I aS).cells⟩).kepX m (fun g o e=>by cases e;exact fun h=>h.elim (fun h=>by have h:X≤w.heap.size:=h;omega) (fun h=>by have:=(q.out.lt _ h).1;omega))⟩)
   unfold NV zaN at ao;simp only[ab,H.out,List.length_replicate]at ao;have bv:∀b,(Value.slice a k c).ownBlock=some b→G≤b:=fun b d=>(q.out.lt b d).1;have aZ:=zC bv;clear bv;have bV:=zC ao;clear ao bk q ah aV I;go_wp2_with (first
    | (refine ld26 (.tmp 5) EB ?_))
   refine bV.out.mono ?_;rintro e w8 ⟨L',rfl,bc,aa⟩;have bF:=zC bc;have bT:=bj.kepX aa (fun E=>by have:=aZ.out _ E;omega);have B8:=aa.toBelow ay (fun b d=>by have:=aZ.out _ d;omega);clear bc bj aa EB ay;go_wp2_with (first
    | (refine st26 (.tmp 2) (.tmp 34) [.slice L'.a1 N'.comps.length L'.c1,.slice L'.a2 N'.parts.length L'.c2,.slice L'.a3 N'.ctxs.length L'.c3,N'.part] bT ?_;intro wM EM gM sM))
   have hL:=lv26 EM;refine rL2 hL ?_;exact⟨L',rfl,fun W hW=>bF.out W ((KepX.row gM (fun b e=>.inl (by show _≤_;have:=zI e;omega))).trans (hW.mono (fun b _ h=>by show _≤_;have h:b<w.heap.size:=h;omega))),B8.trans (yA gM (zF _) B8.size)⟩
theorem zfT(w:World)(N:S14.N)(d:N.comps.length≤16)(b:∀c∈N.comps,0≤c.kind∧c.kind≤6∧c.kind≠2):ziX w N N:=fun L W X i _ a _ _ _ _=>
 (zsA N L W (a W (KepX.refl _ _)) d b).mono fun e j h=>⟨L,h.1,fun f g=>a f ((KepX.below h.2).trans g),KepX.below h.2⟩
theorem wpPlan_storeB{P:Program}{Y:Array Value→Nat→Option Bool}{Q:Exit→Act→World→Prop}{S:World→Prop}{G:Act→World→Prop}{w:World}{f:Plan Oper}{o:Oper}{a:Act}(T:TypeId)(x y:Operand)(j:o.op = .store T x y)(q:Region.wanted o (Y a.tmps)=true)
 (b:Nat) (k:a.eval x = .pointer (some ⟨b,0,none⟩)) (c:List Value) (i:a.eval y = .agg c.toArray) (e:List Value) (t:TypeId) (g:Blk w b e t) (m:(P.info? T).map (·.size)=some c.length) (n:e.length=c.length)
 (l:∀v∈c,v.oneCell'=true) (h:∀d,Blk d b c t→w.grownBy d (some b)→d.heap.size=w.heap.size→S d∧zaI P Y Q S G f (a.put o.dst undef) d):zaI P Y Q S G (.one o f) a w:=by
 obtain⟨p,r⟩:=zmA g c.toArray;unfold zaI;rw[zQ q];refine .inl (wp_store_row T x y j b c.toArray k i t e.toArray g (by simpa using m) (by simpa using n) (all_oneCell_toArray l) (h _ ?_ r ?_))
 ·simpa using p
 ·simp[World.setRow]
def zkS{α:Type}(xs:List α)(o:Nat)(vs:List α):List α:=xs.take o++(vs++xs.drop (o+vs.length))
theorem ziG{α:Type}(xs:List α)(o:Nat)(vs:List α)(h:o+vs.length≤xs.length):(zkS xs o vs).length=xs.length:=by
 unfold zkS;simp;omega
theorem zhN{b:Nat}{e:TypeId}{f:Nat×Nat}:∀(d:List Value) (o:Nat) (w:World) (a:Array Value),w.heap[b]? = some (.cells a e f)→∃g,(w.setCells b o d).heap[b]? = some (.cells g e f)∧g.size=a.size
 | [],_,_,a,h=>⟨a,h,rfl⟩
 | v::d,o,w,a,h=>by
   obtain⟨c,i,m⟩:∃c,(w.setCell ⟨b,o,none⟩ v).heap[b]? = some (.cells c e f)∧c.size=a.size:=by
    unfold World.setCell;simp only[h];have n:=(Array.getElem?_eq_some_iff.1 h).1;refine⟨a.setIfInBounds o v,?_,by simp⟩;simp only[Array.getElem?_modify,h,if_true,Option.map_some];rfl
   obtain⟨k,j,l⟩:=zhN d (o+1) _ c i;exact⟨k,j,l.trans m⟩
theorem yL(b:Nat):∀(a:List Value) (o:Nat) (w:World),w.grownBy (w.setCells b o a) (some b)
 | [],_,w=>⟨rfl,rfl,rfl,zF _,fun _ _ _=>rfl⟩
 | v::a,o,w=>(zbS w b o v).trans (yL b a (o+1) _)
theorem zdL{w:World}{f:Nat}{e:TypeId}{b n cap g:Nat}{xs:List Value}(h:w.ownsRow f e b (.slice (some ⟨g,0,none⟩) n cap) n xs){o k:Nat}(t:o+k≤n*b):w.there g o k:=by
 rcases h.2 with⟨a,_⟩|⟨q,s,c,a,p,d,m,v,i,u⟩
 ·simp at a
 ·simp only[Value.slice.injEq,Option.some.injEq]at a;obtain⟨a,-,rfl⟩:=a;cases a;intro j r;have l:o+j<c.size:=by
   rw[i];have:=Nat.mul_le_mul_right b m;omega
  refine⟨?_,frozen_of_row w g _ c e d⟩;rw[cell_of_row w g (o+j) c e _ d,Array.getElem?_eq_getElem l];rfl
theorem zgT{w:World}{k:Nat}{e:TypeId}{c n cap g:Nat}{xs:List Value}(h:w.ownsRow k e c (.slice (some ⟨g,0,none⟩) n cap) n xs){o:Nat}{vs:List Value}(t:o+vs.length≤n*c) :
 (w.setCells g o vs).ownsRow k e c (.slice (some ⟨g,0,none⟩) n cap) n (zkS xs o vs):=by
 have s:=zdL h t;have r:=h.1;refine⟨(ziG xs o vs om).trans r,?_⟩;rcases h.2 with⟨a,_⟩|⟨B,C,d,a,q,j,z,v,y,u⟩
 ·simp at a
 ·simp only[Value.slice.injEq,Option.some.injEq]at a;obtain⟨a,-,rfl⟩:=a;cases a;obtain⟨f,l,A⟩:=zhN vs o w d j;refine .inr ⟨g,cap,f,rfl,q,l,z,v,A.trans y,?_⟩
  have m:∀i,i<n*c→d[i]? = xs[i]? :=fun i b=>by
   rw[←u,List.getElem?_take_of_lt b,Array.getElem?_toList]
  have x:∀i,f[i]? = (w.setCells g o vs).cell? ⟨g,i,none⟩:=fun i=>(cell_of_row _ g i f e _ l).symm;apply List.ext_getElem?;intro i;by_cases b:i<n*c
  ·rw[List.getElem?_take_of_lt b,Array.getElem?_toList,x];unfold zkS;by_cases p:i<o
   ·rw[zbH (by rw[yJ];omega),List.getElem?_take_of_lt p,←m i b,←cell_of_row w g i d e _ j];exact World.cell?_setCells_out g vs o w ⟨g,i,none⟩ (fun _ _=>.inl p)
   ·rw[yK (by rw[yJ];omega),yJ,Nat.min_eq_left om];by_cases D:i<o+vs.length
    ·rw[zbH om];have:=World.rangeAt_setCells_same w g o vs s (i-o) _ (zD om);rw[show o+(i-o)=i by omega]at this;rw[this,zD om]
    ·rw[yK om,zdI,show o+vs.length+(i-o-vs.length)=i by omega,←m i b,←cell_of_row w g i d e _ j];exact World.cell?_setCells_out g vs o w ⟨g,i,none⟩ (fun _ _=>.inr (by show o+vs.length≤i;omega))
  ·rw[yY (by rw[yJ];omega),yY (by rw[ziG xs o vs om];omega)]
theorem zvA:∀(a:List S14.P) (b:List Lay) (k:Nat) (p:S14.P) (y:Lay),b.length=a.length→k<a.length→PCs (a.set k p) (b.set k y)=zkS (PCs a b) (k*16) (yB p y)
 | [],_,_,_,_,_,hk=>by simp at hk
 | _::_,[],_,_,_,h,_=>by simp at h
 | q::a,z::b,0,p,y,_,_=>by
   show yB p y++PCs a b=zkS (yB q z++PCs a b) (0*16) (yB p y);unfold zkS;rw[Nat.zero_mul,List.take_zero,List.nil_append,yE,zaU,List.drop_append,zaU,Nat.sub_self,List.drop_zero,List.drop_of_length_le (by rw[zaU];exact zF _),List.nil_append]
 | q::a,z::b,k+1,p,y,h,hk=>by
   show yB q z++PCs (a.set k p) (b.set k y)=zkS (yB q z++PCs a b) ((k+1)*16) (yB p y);rw[zvA a b k p y (by simpa using h) (by simpa using hk)];unfold zkS;have d:(yB q z).take ((k+1)*16)=yB q z:=List.take_of_length_le (by rw[zaU];omega);have c:(yB q z).drop ((k+1)*16+16) = []:=List.drop_of_length_le (by rw[zaU];omega);rw[zaU p y,List.take_append,List.drop_append,d,c,zaU q z,List.nil_append,List.append_assoc,show(k+1)*16-16=k*16 by omega,show(k+1)*16+16-16=k*16+16 by omega]
def ztN(c:S14.C):FuncId:=
 if c.kind=0 then 141 else if c.kind=1 then 154 else if c.kind=2 then 183 else if c.kind=3 then 199 else if c.kind=4 then 228 else if c.kind=5 then 236 else 256
def S14.parts1(G:Nat→S14.P)(ps:List S14.P):Nat→List S14.P
 | 0=>ps
 | k+1=>(S14.parts1 G ps k).set k (G k)
theorem S14.parts1_length(G:Nat→S14.P)(ps:List S14.P):∀k,(S14.parts1 G ps k).length=ps.length
 | 0=>rfl
 | k+1=>by rw[S14.parts1,yH,S14.parts1_length G ps k]
theorem S14.outs_take(O:Nat→List Int→Int)(k:Nat):∀n,k≤n→(S14.outs O n).take k=S14.outs O k
 | 0,h=>by obtain rfl:k=0:=by omega
           rfl
 | n+1,h=>by
   by_cases e:k=n+1
   ·subst e;exact List.take_of_length_le (by rw[S14.outs_length];exact zF _)
   ·rw[S14.outs,List.take_append_of_le_length (by rw[S14.outs_length];omega)];exact S14.outs_take O k n om
theorem Rd.take14{w:World}{a:Option Addr}{vals:List Value}(h:Rd w a vals)(k:Nat):Rd w a (vals.take k):=fun c=>by
 obtain⟨g,o,e,d⟩:=h (fun e=>c (by rw[e,List.take_nil]));refine⟨g,o,e,fun j v b=> ?_⟩;rw[zbG]at b;split at b
 ·exact d j v b
 ·cases b
theorem zbY{X:Nat→Prop}{w w':World}{c:Nat}{e:TypeId}{d n:Nat}{v:Value}{xs:List Value}(h:w.ownsRow c e d v n xs)(f:KepX X w w')(i:∀g,v.ownBlock=some g→¬X g):w'.ownsRow c e d v n xs:=by
 refine⟨h.1,?_⟩;rcases h.2 with a|⟨g,k,l,a,j,b,r⟩
 ·exact .inl a
 ·exact .inr ⟨g,k,l,a,j,(f.same g (i g (by rw[a];rfl)) (Array.getElem?_eq_some_iff.1 b).1).trans b,r⟩
theorem zcH{w:World}{c:Nat}{e:TypeId}{k n cap:Nat}{a:Option Addr}{xs:List Value}(h:w.ownsRow c e k (.slice a n cap) n xs)(o:1≤n):∃g,a=some ⟨g,0,none⟩∧c≤g∧g<w.heap.size∧n≤cap∧cap≤maxLen:=by
 rcases h.2 with⟨b,l⟩|⟨g,m,p,b,f,d,i,j,_⟩
 ·omega
 ·simp only[Value.slice.injEq]at b;obtain⟨rfl,_,rfl⟩:=b;exact⟨g,rfl,f,(Array.getElem?_eq_some_iff.1 d).1,i,j⟩
theorem zeY{w:World}{l base':Nat}{e a:TypeId}{q n cap m n' k g b o o':Nat}{xs p:List Value}(h:w.ownsRow l e q (.slice (some ⟨g,o,none⟩) n cap) n xs)(i:w.ownsRow base' a m (.slice (some ⟨b,o',none⟩) n' k) n' p)(d:¬e=a):g≠b:=by
 intro j;subst j;obtain⟨_,s,f⟩:=zbP h rfl;obtain⟨_,r,c⟩:=zbP i rfl;rw[f]at c;cases c;exact d rfl
def S14.next(p bit:Int):Int:=if 2*p+bit>255 then 1 else 2*p+bit
def S14.opens(p:Int):Prop:=p=1∨16≤p∧p≤31
theorem zkI(v:Value)(w:World):(nilAhead 384 87 v "compactor/network.learn").run Tryz.prog w = .ok (some false) w:=by kernel_rfl
theorem zkY(v:Value)(w:World):(method 384 87 v "compactor/network.learn").run Tryz.prog w = .ok (141,v) w:=by kernel_rfl
theorem znE(v:Value)(w:World):(nilAhead 384 88 v "compactor/network.learn").run Tryz.prog w = .ok (some false) w:=by kernel_rfl
theorem zoO(v:Value)(w:World):(method 384 88 v "compactor/network.learn").run Tryz.prog w = .ok (154,v) w:=by kernel_rfl
theorem zlR(v:Value)(w:World):(nilAhead 384 89 v "compactor/network.learn").run Tryz.prog w = .ok (some false) w:=by kernel_rfl
theorem zmO(v:Value)(w:World):(method 384 89 v "compactor/network.learn").run Tryz.prog w = .ok (183,v) w:=by kernel_rfl
theorem zlQ(v:Value)(w:World):(nilAhead 384 90 v "compactor/network.learn").run Tryz.prog w = .ok (some false) w:=by kernel_rfl
theorem zmN(v:Value)(w:World):(method 384 90 v "compactor/network.learn").run Tryz.prog w = .ok (199,v) w:=by kernel_rfl
theorem zlS(v:Value)(w:World):(nilAhead 384 91 v "compactor/network.learn").run Tryz.prog w = .ok (some false) w:=by kernel_rfl
theorem zmP(v:Value)(w:World):(method 384 91 v "compactor/network.learn").run Tryz.prog w = .ok (228,v) w:=by kernel_rfl
theorem zoY(v:Value)(w:World):(nilAhead 384 92 v "compactor/network.learn").run Tryz.prog w = .ok (some false) w:=by kernel_rfl
theorem zqN(v:Value)(w:World):(method 384 92 v "compactor/network.learn").run Tryz.prog w = .ok (236,v) w:=by kernel_rfl
theorem zlP(v:Value)(w:World):(nilAhead 384 93 v "compactor/network.learn").run Tryz.prog w = .ok (some false) w:=by kernel_rfl
theorem zmM(v:Value)(w:World):(method 384 93 v "compactor/network.learn").run Tryz.prog w = .ok (256,v) w:=by kernel_rfl
theorem zrO(n:Nat)(a:Option Addr)(c:Nat)(w:World):Calls Tryz.prog 52 #[.slice a n c,.slice none 0 0] w fun e b=>e = .returned (.bool (decide (n=0)))∧Below w w b:=by
 by_cases h:n=0
 ·subst h;exact zhY [] a none c 0 w by1 (Rd.nil _ _) (Rd.nil _ _)
 ·have d:((n:Int)==0)=false:=by simp[h]
  rw[zL h];go_enter Tryz.func52,Tryz.ntmps52;exact mf4
theorem strOfNums_ne{xs:List Int}(h:¬xs.length=0):(strOfNums xs).toList.isEmpty=false:=by
 rw[ByteArray.toList_eq,strOfNums_data,List.isEmpty_eq_false_iff];intro e;have:=yG List.length e;rw[yO]at this;exact h this
theorem zdP(m:S12.M)(p:Pl)(w:World)(O:MIs m p w) :
 Calls Tryz.prog 54 #[MV m p,.agg #[.int .i64 0,.int .i64 0,.slice none 0 0,.slice none 0 0,.int .i64 0,.int .i64 0,.int .i64 0,.int .i64 0,.slice none 0 0]] w fun e w'=>e = .returned (.bool (S14.noM m))∧Below w w w':=by
 have E:=O.rdb;clear O;obtain⟨k,g,heads,d,at_,l,j,f,r⟩:=m;obtain⟨F,N,x,y,v,t⟩:=p;obtain⟨R,a⟩:=zvJ (S14.noM ⟨k,g,heads,d,at_,l,j,f,r⟩);rw[a];unfold S14.noM at a;unfold MV yX;simp only at a E⊢;have X:=zC fun W=>zrO r.length v t W;obtain⟨n,b,_,_,c⟩:=al2 w [k,g,.slice F heads.length N,.slice x d.length y,at_,l,j,f,.slice v r.length t] [.int .i64 0,.int .i64 0,.slice none 0 0,.slice none 0 0,.int .i64 0,.int .i64 0,.int .i64 0,.int .i64 0,.slice none 0 0] 43 43;have U:=conv12 d x y n (E.step c);have Q:=conv12 [] none 0 n (Rd.nil _ _);have V:strOfNums []=ByteArray.empty:=rfl;have L:=strOfNums_ne (xs:=d);have M:d.length=0→strOfNums d=ByteArray.empty:=fun h=>by rw[List.length_eq_zero_iff.1 h];rfl
 rw[V]at Q;obtain⟨st,S⟩:=zvJ (strOfNums d);rw[S]at U L M;simp only[List.length_nil]at Q;obtain⟨u,C,D,z,o,q⟩:=zz3 heads.length d.length r.length;rw[z,o,q]at a;rw[o]at U L M;rw[z,o,q]at b;rw[q]at X;rw[z,o,q];have T:Blk n w [k,g,.slice F u N,.slice x C y,at_,l,j,f,.slice v D t] 43:=by rw[←b];exact(Blk.new w _ _).alloc _
 have P:Blk n (w.heap.size+1) [.int .i64 0,.int .i64 0,.slice none 0 0,.slice none 0 0,.int .i64 0,.int .i64 0,.int .i64 0,.int .i64 0,.slice none 0 0] 43:=by
  have h:=Blk.new (w.alloc (.cells #[k,g,.slice F u N,.slice x C y,at_,l,j,f,.slice v D t] 43)) [.int .i64 0,.int .i64 0,.slice none 0 0,.slice none 0 0,.int .i64 0,.int .i64 0,.int .i64 0,.int .i64 0,.slice none 0 0] 43;rw[←b];simpa using h
 clear S z o q E V;obtain⟨x0,x1,x2,x3,x4,x5,x6,x7,x8⟩:=T.nine;obtain⟨y0,y1,y2,y3,y4,y5,y6,y7,y8⟩:=P.nine;clear T P;by_cases G:k=0
 ·subst G;have e0:((0:Int)==0)=true:=rfl;by_cases J:g=0
  ·subst J;have e1:((0:Int)==0)=true:=rfl;by_cases B:at_=0
   ·subst B;have Y:((0:Int)==0)=true:=rfl;by_cases H:l=0
    ·subst H;have e3:((0:Int)==0)=true:=rfl;by_cases I:j=0
     ·subst I;have e4:((0:Int)==0)=true:=rfl;by_cases K:f=0
      ·subst K;have e5:((0:Int)==0)=true:=rfl;by_cases A:u=0
       ·subst A;by_cases s:C=0
        ·obtain rfl:=M s;subst s;have e7:(ByteArray.empty.toList==ByteArray.empty.toList)=true:=by simp
         have aa:decide (D=0)=R:=by rw[←a];simp[*]
         clear a;go_enter Tryz.func54,Tryz.ntmps54;go_wp2_with (rw[b]);go_loopw [5] (fun i wr=>i = .int .i64 (0:Int)∧wr=n) (fun i _=>0)
         case atStart=>exact⟨rfl,rfl⟩
         case round=>
          obtain⟨rfl,rfl⟩:=hrel;go_wp2_with fail;refine mnb c (X.out _) fun w5 ad Z=> ?_;go_wp2_with fail;go_returns;exact⟨by first|rfl|exact zaA aa,Z⟩
        ·obtain rfl:R=false:=by rw[←a];simp[s]
         clear a;have e7:=L s;go_enter Tryz.func54,Tryz.ntmps54;go_wp2_with (rw[b]);go_wp2;go_returns;exact⟨by first|rfl|simp,by first|exact c|(rw[b];exact c)⟩
       ·obtain rfl:R=false:=by rw[←a];simp[A]
        clear a;have e6:((u:Int)==0)=false:=by simp[A]
        go_enter Tryz.func54,Tryz.ntmps54;go_wp2_with (rw[b]);go_wp2;go_returns;exact⟨by first|rfl|simp,by first|exact c|(rw[b];exact c)⟩
      ·obtain rfl:R=false:=by rw[←a];simp[K]
       clear a;have e5:(f==0)=false:=by simp[K]
       go_enter Tryz.func54,Tryz.ntmps54;go_wp2_with (rw[b]);go_wp2;go_returns;exact⟨by first|rfl|simp,by first|exact c|(rw[b];exact c)⟩
     ·obtain rfl:R=false:=by rw[←a];simp[I]
      clear a;have e4:(j==0)=false:=by simp[I]
      go_enter Tryz.func54,Tryz.ntmps54;go_wp2_with (rw[b]);go_wp2;go_returns;exact⟨by first|rfl|simp,by first|exact c|(rw[b];exact c)⟩
    ·obtain rfl:R=false:=by rw[←a];simp[H]
     clear a;have e3:(l==0)=false:=by simp[H]
     go_enter Tryz.func54,Tryz.ntmps54;go_wp2_with (rw[b]);go_wp2;go_returns;exact⟨by first|rfl|simp,by first|exact c|(rw[b];exact c)⟩
   ·obtain rfl:R=false:=by rw[←a];simp[B]
    clear a;have Y:(at_==0)=false:=by simp[B]
    go_enter Tryz.func54,Tryz.ntmps54;go_wp2_with (rw[b]);go_wp2;go_returns;exact⟨by first|rfl|simp,by first|exact c|(rw[b];exact c)⟩
  ·obtain rfl:R=false:=by rw[←a];simp[J]
   clear a;have e1:(g==0)=false:=by simp[J]
   go_enter Tryz.func54,Tryz.ntmps54;go_wp2_with (rw[b]);go_wp2;go_returns;exact⟨by first|rfl|simp,by first|exact c|(rw[b];exact c)⟩
 ·obtain rfl:R=false:=by rw[←a];simp[G]
  clear a;have e0:(k==0)=false:=by simp[G]
  go_enter Tryz.func54,Tryz.ntmps54;go_wp2_with (rw[b]);go_wp2;go_returns;exact⟨by first|rfl|simp,by first|exact c|(rw[b];exact c)⟩
theorem ziE(xs:List (Int×Int))(a:Option Addr)(c n:Nat)(b:Int)(w:World)(O:xs.length≤9223372036854775807)(F:Rd w a (Cts xs)) :
 Calls Tryz.prog 70 #[.slice a xs.length c,n,b] w fun e C=>e = .returned (.bool (S14.okCtrs xs n b))∧Below w w C:=by
 have B:=zC fun(x:Int×Int) W=>zcL x.1 x.2 b W;have p:∀k,k<xs.length→∃x:Int×Int,xs[k]? = some x∧(Cts xs)[k*2]? = some (.int .i64 x.1)∧(Cts xs)[k*2+1]? = some (.int .i64 x.2):=fun k f=>⟨xs[k]'f,zD f,zeD f⟩;obtain⟨D,J⟩:=zh2 p (fun(e:Cts xs = [])=>show xs.length=0 by have:=yG List.length e;rw[yT]at this;simp at this;omega);obtain⟨R,d⟩:=zvJ (S14.okCtrs xs n b);rw[d];unfold S14.okCtrs at d;have A:=zC d;clear d p;go_enter Tryz.func70,Tryz.ntmps70;go_wp2_with fail;go_loopw [7] (fun i wr=>∃k:Nat,k≤xs.length∧i = .int .i64 (k:Int)∧Below w w wr∧Hid ((xs.take k).any (fun c=>decide (S08.check c.1 c.2 b≠0))=false)) (fun i _=>xs.length-(intOf i).toNat)
 case atStart=>exact⟨0,by omega,rfl,by go_grown,zC by1⟩
 case round=>
  obtain⟨k,f,rfl,l,z⟩:=hrel;by_cases I:k<xs.length
  ·have Q:(k:Int)<(xs.length:Int):=by omega
   have r:Cts xs≠ []:=fun e=>by have:=J.out e;omega
   obtain⟨x,q,s,v⟩:=D.out k I;obtain⟨K,P,rfl,m⟩:=(F.step l) r;have M:=m (k*2) _ s;have H:=m (k*2+1) _ v;rw[←zcE]at H;have u:=zC q;clear m s v r q;go_wp2_with fail;refine mnb l (B.out x _) fun N L t=> ?_;obtain⟨E,g⟩:=zvJ (S08.check x.1 x.2 b);rw[g];have y:=zC g;clear g;by_cases o:E=0
   ·subst o
    have G:Hid ((xs.take (k+1)).any (fun c=>decide (S08.check c.1 c.2 b≠0))=false):=zC (by
     rw[List.take_add_one,u.out,List.any_append,z.out];simp[y.out])
    go_wp2;go_roundw
    case rel=>exact⟨k+1,by omega,by go_num,t,G⟩
    case measure=>simp[intOf];omega
   ·have S:(E==0)=false:=by simp[o]
    have j:R=false:=by
     rw[←A.out];have:xs.any (fun c=>decide (S08.check c.1 c.2 b≠0))=true:=List.any_eq_true.2 ⟨x,yF u.out,by rw[y.out];exact zO o⟩;rw[this];simp
    subst j;exact mf1 t
  ·obtain rfl:k=xs.length:=by omega
   have j:(((xs.length:Nat):Int)==(n:Int))=R:=by
    have h:=z.out;rw[zaD]at h;have e:(((xs.length:Nat):Int)==(n:Int))=decide (xs.length=n):=by
     rw[show(((xs.length:Nat):Int)==(n:Int))=decide (((xs.length:Nat):Int)=(n:Int))from rfl,decide_eq_decide];omega
    rw[←A.out,h,e,Bool.not_false,Bool.and_true]
   go_wp2;go_returns;exact⟨by first|rfl|exact zaA j,l⟩
theorem node_r14:∀a<256,∀j<4,16*2^j≤a→a<32*2^j→S14.node a=2^j+a%2^j:=by decide +kernel
theorem zpT(pt:Nat)(y:pt≤255)(w:World):Calls Tryz.prog 45 #[pt] w fun e i=>e = .returned (.int .i64 (S14.node pt:Int))∧Below w w i:=by
 obtain⟨R,b⟩:=zvJ (S14.node pt);rw[b];have p:=zC b;by_cases g:pt<16
 ·have r:pt=R:=by rw[←b];unfold S14.node;rw[zQ g]
  have f:(pt:Int)<16:=by omega
  clear b;subst r;go_enter Tryz.func45,Tryz.ntmps45;go_wp2;go_returns;exact⟨rfl,zJ _ _⟩
 ·have f:¬(pt:Int)<16:=by omega
  clear b;go_enter Tryz.func45,Tryz.ntmps45;go_wp2;go_loopw [3] (fun t wr=>∃n j:Nat,1≤n∧n≤15∧16*n≤pt∧Hid (2^j=n∧j<4)∧t = .int .i64 (n:Int)∧Below w w wr) (fun t _=>256-(intOf t).toNat)
  case atStart=>exact⟨1,0,by omega,by omega,by omega,zC ⟨rfl,by omega⟩,rfl,zJ _ _⟩
  case round=>
   obtain⟨n,j,u,s,k,a,rfl,c⟩:=hrel;by_cases x:32*n≤pt
   ·have l:(16:Int)*n*2≤(pt:Int):=by omega
    have q:Hid (2^(j+1)=2*n∧j+1<4):=zC (by
     obtain⟨e,v⟩:=a.out;refine⟨by rw[Nat.pow_succ,e];omega,?_⟩;rcases yU (j+1) 4 with h|h
     ·exact h
     ·obtain rfl:j=3:=by omega
      omega)
    go_wp2;go_roundw
    case rel=>exact⟨2*n,j+1,by omega,by omega,by omega,q,by go_num,c⟩
    case measure=>simp[intOf];omega
   ·have l:¬(16:Int)*n*2≤(pt:Int):=by omega
    have d:¬(n:Int)=0:=by omega
    have o:Hid ((n:Int)+(pt:Int)%n=(R:Int)):=zC (by
     have:=node_r14 pt om j a.out.2 (by rw[a.out.1];exact k) (by rw[a.out.1];omega);rw[p.out,a.out.1]at this;rw[this];simp)
    have m:Hid (0≤(pt:Int)%n∧(pt:Int)%n<n):=zC ⟨Int.emod_nonneg _ d,Int.emod_lt_of_pos _ om⟩;go_wp2;go_returns;exact⟨zbM (by have:=m.out;rw[IntWalk.wrap64_in _ ⟨by omega,by omega⟩];exact o.out),c⟩
theorem zdQ(N:S14.N)(L:NLay)(k:Nat)(w:World)(x:NIs N L w)(Q:k<N.ctxs.length)(pt:Nat)(y:N.part=(pt:Int))(aa:pt<4294967296)(c:S14.C)(r:N.comps[k]? = some c)(n:Nat)(V:c.bits=(n:Int))(ao:n≤16) :
 Calls Tryz.prog 41 #[NV N L,k] w fun e w'=>e = .returned (.int .i64 (S14.index (N.ctxs.getD k 0) pt n:Int))∧Below w w w':=by
 obtain⟨b,f,ah,h,ak⟩:=x.ctx_at Q;have m:=zC fun(W:World)=>zpW (N.ctxs.getD k 0) pt ak aa W;have z:=zC fun(W:World)=>zbW n om W;obtain⟨g,o,Z,B⟩:=x.comp_at r;have ag:(k:Int)<(N.comps.length:Int):=by have:=(List.getElem?_eq_some_iff.1 r).1;omega
 have ac:(k:Int)<(N.ctxs.length:Int):=by omega
 have l:=B.e1;rw[V]at l;unfold S14.index;have T:=S14.hash_lt (N.ctxs.getD k 0) pt;have a:2^n*2^(32-n)=4294967296:=by rw[←Nat.pow_add,show n+(32-n)=32 by omega]
 have P:0<2^n:=zaJ n;have ae:0<2^(32-n):=zaJ _;unfold NV zaN;rw[Z,ah,y];obtain⟨v,np,t,C,s,O,u,S⟩:=zz4 N.comps.length N.parts.length N.ctxs.length (N.ctxs.getD k 0);rw[S]at m T h⊢;obtain⟨H,p,d,M,F,G⟩:=zz3 (S14.hash C pt) (2^n) (2^(32-n));rw[M]at m T⊢;rw[F]at z a P;rw[G]at a ae⊢;rw[s]at ag;rw[u]at ac;rw[s,O,u];clear s O u M Q x y B r V S F G;have hq:H/d≤H:=zfB _ _;have J:((H:Int)/(d:Int))=((H/d:Nat):Int):=by simp
 have ad:(4294967296:Int)/(p:Int)=(d:Int):=by
  have e:(4294967296:Int)=(p:Int)*d:=by rw[←Int.natCast_mul,a];rfl
  rw[e,Int.mul_ediv_cancel_left _ om]
 have ap:d≤4294967296:=by rw[←a];exact Nat.le_mul_of_pos_left d P
 obtain⟨q,A⟩:=zvJ (H/d);rw[A]at hq J⊢;have aq:=zC a;clear a A;have ar:¬(p:Int)=0:=by omega
 have au:¬(d:Int)=0:=by omega
 have av:IntKind.i64.wrap (H:Int)=(H:Int):=IntWalk.i64_in _ om;obtain⟨X,aj,j,i⟩:=al1 w [.slice (some ⟨g,o,none⟩) v L.c1,.slice L.a2 np L.c2,.slice (some ⟨b,f,none⟩) t L.c3,pt] 26;have af:=(i.cell (zE h)).trans h;have ai:=(i.cell (zE l)).trans l;go_enter Tryz.func41,Tryz.ntmps41;go_wp2_with (rw[aj]);have R:Cells X [(⟨w,0,none⟩,.slice (some ⟨g,o,none⟩) v L.c1),(⟨w,2,none⟩,.slice (some ⟨b,f,none⟩) t L.c3),(⟨w,3,none⟩,pt),(⟨b,f+k,none⟩,.int .u32 (C:Int)),(⟨g,o+k*6+1,none⟩,n)]:=⟨j.cell 0,j.cell 2,j.cell 3,af,ai,zT⟩;refine zvL 9 1 [(U,0,7),(zvE,7,1),(U,8,1)] (Keeps X [(⟨w,0,none⟩,.slice (some ⟨g,o,none⟩) v L.c1),(⟨w,2,none⟩,.slice (some ⟨b,f,none⟩) t L.c3),(⟨w,3,none⟩,pt),(⟨b,f+k,none⟩,.int .u32 (C:Int)),(⟨g,o+k*6+1,none⟩,n)]) (Keeps.start R) fun Y Q4 F4 hY D=> ?_;repeat refine mrd ?_
 refine mcl ?_;refine mck (Keeps.start R) (m.out _) fun w2 am E=> ?_;repeat refine mrd ?_
 refine mdn D fun K I=> ?_;clear D hY;have ab:=zA i E.1;obtain⟨_,c0,_,_,_,c4,_⟩:=E;go_wp2_with fail;refine mok I ?_;clear I;go_wp2_with fail;refine mnb ab (z.out _) fun w3 an al=> ?_;go_wp2;go_returns;exact⟨by first|rfl|exact zbM (by simp[ad,J]),al⟩
def cK:S14.C:=⟨0,0,3072,0,0,0⟩
def cD:S14.C:=⟨1,0,255,0,0,0⟩
def cA:S14.C:=⟨4,0,128,0,0,1⟩
theorem zlB(w:World):Calls Tryz.prog 11 #[] w fun e a=>∃g,e = .returned (.slice (some ⟨g,0,none⟩) 1 1)∧a.ownsRow w.heap.size 56 6 (.slice (some ⟨g,0,none⟩) 1 1) 1 (zfG [cK])∧Below w w a:=by
 go_enter Tryz.func11,Tryz.ntmps11;go_wp2;go_returns;exact⟨w,rfl,⟨rfl,.inr ⟨w,1,_,rfl,zF _,heap_alloc_new w _,zF _,by decide,rfl,rfl⟩⟩,(zJ _ _).alloc (zF _) _⟩
def zjD(N:S14.N)(L:NLay)(w:World)(O:Nat→List Int→Int)(G:Nat→S14.P)(bit:Int):Prop:=
 ∀(k:Nat) (c:S14.C),N.comps[k]? = some c→∀(a:Option Addr) (W:World),Below w w W→Rd W a (zaE (S14.outs O k))→
  Calls Tryz.prog (ztN c) #[CV c,VV N L k (.slice a k k),bit] W fun e w'=>∃y,e = .returned (.tuple #[PV (G k) y,.int .i64 0])∧PRob 0 W.heap.size (G k) y w'∧Below W W w'
theorem zlA(N z:S14.N)(L:NLay)(O:Nat→List Int→Int)(G:Nat→S14.P)(bit:Int)(w:World)(hN:NIs N L w)(HR:zeQ N L w)(h0:S14.checkNet N=0)(HK:zgG N L w O)(m:bit=0∨bit=1)(HL:zjD N L w O G bit)
 (bw:S14.opens (S14.next N.part bit)→ziX w ⟨N.comps,S14.parts1 G N.parts N.comps.length,N.ctxs,S14.next N.part bit⟩ z) (bS:¬S14.opens (S14.next N.part bit)→z=⟨N.comps,S14.parts1 G N.parts N.comps.length,N.ctxs,S14.next N.part bit⟩) :
 Calls Tryz.prog 6 #[NV N L,bit] w fun e w'=>∃n,e = .returned (.tuple #[NV z n,.int .i64 0])∧(∀W,KepX (fun k=>k<w.heap.size) w' W→NIs z n W)∧Below w w w':=by
 obtain⟨bi,ba,bd,bc,a6,_⟩:=S14.checkNet_zero h0;obtain⟨aP,hl,cf⟩:=S14.check_zero bi;have bE:=S14.kinds_of bi;obtain⟨W1,al⟩:=zvJ ((w.alloc (.cells (zaN N L).toArray 26)).alloc (.cells zN 26));have k1:Blk W1 w (zaN N L) 26:=by rw[←al];exact(Blk.new w _ _).alloc _
 have r1:Blk W1 (w.heap.size+1) [.slice none 0 0,.slice none 0 0,.slice none 0 0,.int .i64 0] 26:=by
  rw[←al];have h:=Blk.new (w.alloc (.cells (zaN N L).toArray 26)) [.slice none 0 0,.slice none 0 0,.slice none 0 0,.int .i64 0] 26;rwa[zY]at h
 have B1:Below w w W1:=by rw[←al];exact((zJ _ _).alloc (zF _) _).alloc by1 _
 have HC:=zC (zeB N L O W1 (hN.step B1) (fun k c p y s t h3 h4 W u=>HR k c p y s t h3 h4 W (zA B1 u)) h0 (fun k c h cm a W' s=>HK k c h cm a W' (zA B1 s)));have aM:=zC fun(W:World) (u:Below w w W)=>copied14_any N L W (hN.step u) ⟨aP,hl⟩ ba bd;have bk:=zC fun W=>zaR bit 0 1 W;have bB:S14.has bit 0 1=true:=by rcases m with rfl|rfl<;>rfl
 rw[bB]at bk;have HO:=zC fun(x:S14.C) W=>(show Calls Tryz.prog 17 #[.agg #[x.kind,x.bits,x.limit,x.rate,x.first,x.second]] W _ from zhG x W);obtain⟨HN,a4,b8,b4⟩:=zh4 hN HL bw bS;obtain⟨cb,bm,ct⟩:=zh3 bE (show 1≤N.part∧N.part≤255 from⟨bc,a6⟩) m;unfold zN at al;obtain⟨g,o,az,_⟩:=hN.rc (fun e=>by have h:=yG List.length e;rw[zaB,List.length_nil]at h;omega);have bD:=zC hN.rc;rw[az]at bD;clear HR h0 bi HK bB HL bw bS cf bE bc a6 m;unfold NV zaN at HC aM;unfold zaN at k1 al;unfold zjD VV at a4;unfold NV zaN;obtain⟨nc,f,nx,q,ay,aC,aj,aA⟩:=zz4 N.comps.length N.parts.length N.ctxs.length N.part;rw[ay,aC,aj,aA,az]at HC aM k1 al a4;rw[aC,ay]at ba;rw[aj]at bd;rw[ay]at aP hl;rw[aA]at bm;rw[ay,aC,aj,aA,az];clear az;obtain⟨af,ax,bf,aH⟩:=zh4 ay aC aj aA;clear ay aC aj aA hN;subst ba;subst bd;have c1:=k1.cell 0;simp only[lgz]at c1;go_enter Tryz.func6,Tryz.ntmps6;go_wp2_with (first
  | (rw[al])
  | (refine ld26 (.tmp 2) k1 ?_))
 refine HC.out.mono ?_;rintro e w2 ⟨a,au,rfl,bR,bs,cx,aW⟩;have k2:=k1.step aW;have r2:=r1.step aW;have B2:=zA B1 aW;obtain⟨ar,cM⟩:=zh2 bR bs;clear k1 r1 al B1 bR bs aW c1 HC;go_wp2_with fail;refine(bk.out _).mono ?_;rintro e w3 ⟨rfl,aF⟩;have k3:=k2.step aF;have r3:=r2.step aF;have B3:=zA B2 aF;have ar:=zC (ar.out.step aF);obtain⟨ga,oa,rfl,az⟩:∃ga oa,a=some ⟨ga,oa,none⟩∧ga<w3.heap.size:=by
  obtain⟨g',o',e,b2⟩:=ar.out.at (i:=0) (by unfold zaE;rw[yO,S14.outs_length];omega);exact⟨g',o',e,zE (b2 0 (by unfold zaE;rw[yO,S14.outs_length];omega))⟩
 clear k2 r2 B2 aF bk;go_wp2_with (first
  | (refine ld26 (.tmp 2) k3 ?_))
 refine(aM.out _ B3).mono ?_;rintro e w4 ⟨a1,c1,a2,U,a3,c3,rfl,aJ,an,aI,aw⟩;have B4:=zA B3 aw;have k4:=k3.step aw;have r4:=r3.step aw;have ar:=zC (ar.out.step aw);obtain⟨D,hD⟩:=zvJ w3.heap.size;have cP:w.heap.size+1<D:=by rw[←hD];exact r3.lt
 rw[hD]at aJ an aI az;unfold OwnP at an;rw[ax.out]at an;obtain⟨l,aV⟩:=zvJ w4.heap.size;have cu:=aw.size;clear k3 r3 aw aM B3;have cB:D≤l:=by rw[←hD,←aV];exact cu
 obtain⟨W5,aR,_,bV⟩:=al1 w4 [.slice none 0 0,.slice none 0 0,.slice none 0 0,.int .i64 0] 26;have EN:Blk W5 l [.slice none 0 0,.slice none 0 0,.slice none 0 0,.int .i64 0] 26:=by rw[←aR,←aV];exact Blk.new w4 _ _
 obtain⟨gC,rfl,cF,cc,cs,bY⟩:=zcH aJ aP;obtain⟨d,rfl,cH,cn,b5,ch⟩:=zcH an aP;obtain⟨gX,rfl,cy,cl,aT,ck⟩:=zcH aI by2;have be:gC≠d:=zeY aJ an by2;have bh:gX≠d:=zeY aI an by2;rw[aV]at cc cn cl;go_wp2_with (first
  | (rw[aR,aV])
  | (rw[aR])
  | (refine st26 (.tmp 8) (.tmp 27) [.slice (some ⟨gC,0,none⟩) f c1,.slice (some ⟨d,0,none⟩) f U,.slice (some ⟨gX,0,none⟩) 16 c3,q] EN ?_;intro wL EL gL sL;have am:KepX (fun k=>k=l) w4 wL:=(KepX.below bV).trans (KepX.row gL (fun b e=>.inl (zI e).symm));have kL:=k4.kepX am (show¬_=l by omega);have c0:=kL.cell 0;simp only[lgz]at c0))
 have BL:Below w w wL:=am.toBelow B4 (fun k e=>by have e:k=l:=e;omega);have rL:=r4.kepX am (show¬_=l by omega);obtain⟨bJ,bx⟩:=zh2 ((Rd.of_owns aJ).kepX am (fun g o e=>by cases e;show¬_=l;omega)) ((Rd.of_owns aI).kepX am (fun g o e=>by cases e;show¬_=l;omega));have bp:=zbY an am (fun g e=>by have e:some d=some g:=e;cases e;show¬_=l;omega);have co:=zC (ar.out.kepX am (fun g o e=>by cases e;show¬_=l;omega));clear aJ an aI k4 r4 B4 gL sL EN bV am aR ar
 have bt:∀k,(k=w.heap.size+1∨k=l∨k=d)→w.heap.size≤k∧k<wL.heap.size:=fun k h=>by
  have s:=EL.lt;have t:=rL.lt;rcases h with rfl|rfl|rfl
  ·omega
  ·omega
  ·omega
 have cE:=BL.size;obtain⟨Z,hZ⟩:=zvJ wL.heap.size;have R:=zC (hZ▸bt);have bI:∀(j:Nat) (p:S14.P) (y:Lay),j<0→(S14.parts1 G N.parts 0)[j]? = some p→L.ys[j]? = some y→PRobX (fun k=>k<w.heap.size∨k=w.heap.size+1∨k=l∨k=d) p y wL:=fun j p y h=>absurd h (Nat.not_lt_zero _);have bF:L.ys.length=f:=by rw[HN.out.ly,ax.out]
 clear bt
 go_loopw [31] (fun i wr=>∃(k:Nat) (H:List Lay),k≤f∧i = .int .i64 (k:Int)∧H.length=f∧Hid (wr.ownsRow D 50 16 (.slice (some ⟨d,0,none⟩) f U) f (PCs (S14.parts1 G N.parts k) H))∧
  KepX (fun k=>k=d) wL wr∧
  Hid (∀(j:Nat) (p:S14.P) (y:Lay),j<k→(S14.parts1 G N.parts k)[j]? = some p→H[j]? = some y→PRobX (fun k=>k<w.heap.size∨k=w.heap.size+1∨k=l∨k=d) p y wr)) (fun i _=>f-(intOf i).toNat)
 case atStart=>exact⟨0,L.ys,by omega,rfl,bF,zC bp,KepX.refl _ _,zC bI⟩
 case round=>
  clear bp bI bF;obtain⟨k,H,hk,rfl,a0,aB,aa,aE⟩:=hrel;have cg:Z≤wr.heap.size:=by rw[←hZ];exact aa.size
  have aq:Below w w wr:=aa.toBelow BL (fun k e=>by have e:k=d:=e;omega);have kr:=kL.kepX aa (show¬_=d by omega);by_cases bX:k<f
  ·have cI:(k:Int)<(f:Int):=by omega
   have cQ:(k:Int)≤(au:Int):=by omega
   obtain⟨x,hx⟩:∃x,N.comps[k]? = some x:=⟨_,zD (by have:=af.out;omega)⟩;obtain⟨g1,o1,e1,bA⟩:=(bD.out.step aq) (fun e=>by have h:=yG List.length e;have:=af.out;rw[zaB,List.length_nil]at h;omega);cases e1;obtain⟨x0,x1,x2,x3,x4,x5⟩:=zoF bA hx;have cz:=cb.out x (yF hx);obtain⟨r,aZ,_,ao⟩:=al1 wr [x.kind,x.bits,x.limit,x.rate,x.first,x.second] 56;obtain⟨Q,hQ⟩:=zvJ wr.heap.size;have kQ:Blk r Q [x.kind,x.bits,x.limit,x.rate,x.first,x.second] 56:=by rw[←aZ,←hQ];exact Blk.new wr _ _
   have k6:=kr.step ao;have B6:=zA aq ao;have b7:=aa.trans (KepX.below ao);have cO:Z≤r.heap.size:=yD cg ao.size;obtain⟨bo,bT⟩:=zh2 (yM (B:=0) aB.out ao) (show∀(j:Nat) (p:S14.P) (y:Lay),j<k→(S14.parts1 G N.parts k)[j]? = some p→H[j]? = some y→PRobX (fun k=>k<w.heap.size∨k=w.heap.size+1∨k=l∨k=d) p y r from fun j p y av s t=>(aE.out j p y av s t).kep (KepX.below ao))
   have ah:=zC (fun(W:World) (u:Below r r W)=>a4.out k x hx (some ⟨ga,oa,none⟩) W (zA B6 u) (by
    have s:=((co.out.kepX aa (fun g o e=>by cases e;show¬_=d;omega)).step (zA ao u)).take14 k;have t:(zaE (S14.outs O f)).take k=zaE (S14.outs O k):=by
     unfold zaE;rw[←List.map_take,S14.outs_take O k f om]
    rwa[t]at s))
   have ab:Cells r [(⟨Q,0,none⟩,x.kind),(⟨Q,1,none⟩,x.bits),(⟨Q,2,none⟩,x.limit),(⟨Q,3,none⟩,x.rate),(⟨Q,4,none⟩,x.first),(⟨Q,5,none⟩,x.second),(⟨w,0,none⟩,.slice (some ⟨g,o,none⟩) f L.c1),(⟨w,1,none⟩,.slice L.a2 f L.c2),(⟨w,2,none⟩,.slice L.a3 16 L.c3),(⟨w,3,none⟩,q)]:=
    ⟨kQ.cell 0,kQ.cell 1,kQ.cell 2,kQ.cell 3,kQ.cell 4,kQ.cell 5,k6.cell 0,k6.cell 1,k6.cell 2,k6.cell 3,zT⟩
   clear ao aB aE aa bA hx kr aq;go_wp2_with (first|(rw[aZ,hQ])|(rw[aZ])|fail);clear x0 x1 x2 x3 x4 x5;unfold ztN CV zV at ah;obtain⟨TT,FF,bN,aT,cw,ci,b9⟩:∃(TT:TypeId) (FF:FuncId),OfV x = .iface TT (.agg #[x.kind,x.bits,x.limit,x.rate,x.first,x.second])∧(∀W,Below r r W→Calls Tryz.prog FF #[.agg #[x.kind,x.bits,x.limit,x.rate,x.first,x.second],.agg #[.slice (some ⟨g,o,none⟩) f L.c1,.slice L.a2 f L.c2,.slice L.a3 16 L.c3,q,k,.slice (some ⟨ga,oa,none⟩) k k],bit] W fun e w'=>∃y,e = .returned (.tuple #[PV (G k) y,.int .i64 0])∧PRob 0 W.heap.size (G k) y w'∧Below W W w')∧(∀bK w,(callFunc FF bK).run Tryz.prog w = .ok (.enter FF bK) w)∧(∀w,(method 384 TT (.agg #[x.kind,x.bits,x.limit,x.rate,x.first,x.second]) "compactor/network.learn").run Tryz.prog w = .ok (FF,(.agg #[x.kind,x.bits,x.limit,x.rate,x.first,x.second])) w)∧(∀w,(nilAhead 384 TT (.agg #[x.kind,x.bits,x.limit,x.rate,x.first,x.second]) "compactor/network.learn").run Tryz.prog w = .ok (some false) w):=by
    by_cases k0:x.kind=0
    ·refine⟨87,141,?_,?_,enters_of Tryz.func141 zk rfl,zkY _,zkI _⟩
     ·unfold OfV CV zV;simp only[k0];rfl
     ·intro W u;have:=ah.out W u;simp only[k0]at this⊢;exact this
    by_cases k1:x.kind=1
    ·refine⟨88,154,?_,?_,enters_of Tryz.func154 zk rfl,zoO _,znE _⟩
     ·unfold OfV CV zV;simp only[k1];rfl
     ·intro W u;have:=ah.out W u;simp only[k1]at this⊢;exact this
    by_cases k2:x.kind=2
    ·refine⟨89,183,?_,?_,enters_of Tryz.func183 zk rfl,zmO _,zlR _⟩
     ·unfold OfV CV zV;simp only[k2];rfl
     ·intro W u;have:=ah.out W u;simp only[k2]at this⊢;exact this
    by_cases k3:x.kind=3
    ·refine⟨90,199,?_,?_,enters_of Tryz.func199 zk rfl,zmN _,zlQ _⟩
     ·unfold OfV CV zV;simp only[k3];rfl
     ·intro W u;have:=ah.out W u;simp only[k3]at this⊢;exact this
    by_cases k4:x.kind=4
    ·refine⟨91,228,?_,?_,enters_of Tryz.func228 zk rfl,zmP _,zlS _⟩
     ·unfold OfV CV zV;simp only[k4];rfl
     ·intro W u;have:=ah.out W u;simp only[k4]at this⊢;exact this
    by_cases k5:x.kind=5
    ·refine⟨92,236,?_,?_,enters_of Tryz.func236 zk rfl,zqN _,zoY _⟩
     ·unfold OfV CV zV;simp only[k5];rfl
     ·intro W u;have:=ah.out W u;simp only[k5]at this⊢;exact this
    by_cases k6:x.kind=6
    ·refine⟨93,256,?_,?_,enters_of Tryz.func256 zk rfl,zmM _,zlP _⟩
     ·unfold OfV CV zV;simp only[k6];rfl
     ·intro W u;have:=ah.out W u;simp only[k6]at this⊢;exact this
    omega
   have HX:=zC aT;clear aT ah;go_wp2_with fail;refine zaO 19 1 (.read 0 (.read 2 (.read 3 (.read 4 (.read 5 (.read 6 (.read 7 (.read 8 (.read 9 (.two (.one 17 (.one 1 (.read 10 (.read 11 (.read 12 (.one 13 (.read 14 (.read 15 (.read 16 (.one 18 .done)))))))))) (.one 1 (.read 10 (.read 11 (.read 12 (.two (.one 17 (.one 13 (.read 14 (.read 15 (.read 16 (.one 18 .done)))))) (.one 13 (.read 14 (.read 15 (.read 16 (.one 17 (.one 18 .done))))))))))))))))))))) _ _ o0P (fun K=>Below r r K∧Cells K [(⟨Q,0,none⟩,x.kind),(⟨Q,1,none⟩,x.bits),(⟨Q,2,none⟩,x.limit),(⟨Q,3,none⟩,x.rate),(⟨Q,4,none⟩,x.first),(⟨Q,5,none⟩,x.second),(⟨w,0,none⟩,.slice (some ⟨g,o,none⟩) f L.c1),(⟨w,1,none⟩,.slice L.a2 f L.c2),(⟨w,2,none⟩,.slice L.a3 16 L.c3),(⟨w,3,none⟩,q)]) zk (zU 19 _).symm zk zk zk zk (⟨(zJ _ _).drew,ab⟩) (fun Y Q4 F4 hY hF=> ?_);simp only[Plan.map,ltc,ltz,ldc,ldz,zdG,zeF];repeat refine mpR ?_
   have a7:∀(I:Value) (y:Lay) (J:List Value) (A:Nat) (w9 F:World),Hid (yB (G k) y=J)→Below r r w9→PRobX (fun b=>b<w.heap.size∨b=w.heap.size+1∨b=l∨b=d∨b=A) (G k) y w9→r.heap.size≤A→Blk F A J 50→w9.grownBy F (some A)→
    F4 {tmps:=#[Value.agg #[Value.slice (some {block:=g,off:=o}) f L.c1,Value.slice L.a2 f L.c2,Value.slice L.a3 16 L.c3,Value.int IntKind.i64 q],Value.int IntKind.i64 bit,Value.pointer (some {block:=w.heap.size,off:=0}),undef,Value.pointer (some {block:=w.heap.size+1,off:=0}),u5,Value.slice (some {block:=ga,off:=oa}) f au,Value.int IntKind.i64 0,Value.pointer (some {block:=l,off:=0}),Value.int IntKind.i64 (k:Int),Value.pointer (some {block:=Q,off:=0}),Value.pointer (some {block:=A,off:=0}),u12,Value.tuple #[Value.slice (some {block:=ga,off:=oa}) f au,Value.int IntKind.i64 0],Value.agg #[Value.slice (some {block:=g,off:=o}) f L.c1,Value.slice L.a2 f L.c2,Value.slice L.a3 16 L.c3,Value.int IntKind.i64 q],Value.tuple #[Value.slice (some {block:=ga,off:=oa}) f au,Value.int IntKind.i64 0],Value.slice (some {block:=ga,off:=oa}) f au,Value.int IntKind.i64 0,Value.int IntKind.i64 0,Value.bool false,undef,undef,Value.int IntKind.i64 bit,Value.bool true,Value.bool false,undef,Value.agg #[Value.slice (some {block:=g,off:=o}) f L.c1,Value.slice L.a2 f L.c2,Value.slice L.a3 16 L.c3,Value.int IntKind.i64 q],Value.agg #[Value.slice (some {block:=gC,off:=0}) f c1,Value.slice (some {block:=d,off:=0}) f U,Value.slice (some {block:=gX,off:=0}) 16 c3,Value.int IntKind.i64 q],Value.pointer (some {block:=w.heap.size,off:=0}),Value.slice (some {block:=g,off:=o}) f L.c1,Value.int IntKind.i64 (f:Int),Value.int IntKind.i64 (k:Int),Value.bool true,Value.int IntKind.i64 (k:Int),Value.pointer (some {block:=g,off:=o+k*6}),Value.agg #[Value.int IntKind.i64 x.kind,Value.int IntKind.i64 x.bits,Value.int IntKind.i64 x.limit,Value.int IntKind.i64 x.rate,Value.int IntKind.i64 x.first,Value.int IntKind.i64 x.second],Value.tuple #[.agg J.toArray,Value.int IntKind.i64 0],Value.agg #[Value.int IntKind.i64 x.kind,Value.int IntKind.i64 x.bits,Value.int IntKind.i64 x.limit,Value.int IntKind.i64 x.rate,Value.int IntKind.i64 x.first,Value.int IntKind.i64 x.second],I,Value.agg #[Value.slice (some {block:=g,off:=o}) f L.c1,Value.slice L.a2 f L.c2,Value.slice L.a3 16 L.c3,Value.int IntKind.i64 q],Value.int IntKind.i64 (k:Int),Value.slice (some {block:=ga,off:=oa}) f au,Value.int IntKind.i64 (k:Int),Value.int IntKind.i64 (k:Int),Value.slice (some {block:=ga,off:=oa}) k k,Value.agg #[Value.slice (some {block:=g,off:=o}) f L.c1,Value.slice L.a2 f L.c2,Value.slice L.a3 16 L.c3,Value.int IntKind.i64 q,Value.int IntKind.i64 (k:Int),Value.slice (some {block:=ga,off:=oa}) k k],Value.int IntKind.i64 bit,Value.func (Fn.method "compactor/network.learn") #[I] #[],Value.func (Fn.method "compactor/network.learn") #[I] #[],I,Value.tuple #[.agg J.toArray,Value.int IntKind.i64 0],.agg J.toArray,Value.int IntKind.i64 0,u53,u54,u55,u56,u57,u58,u59,u60,u61,u62,undef,undef,undef,undef,undef,undef,undef,undef,undef,undef,undef,undef,undef,undef,undef,undef,undef,undef,undef,undef,undef,undef],defers:=[]} F:=by
    intro I y J A w9 F aN aO br ac ES T;refine hF.out _ _ (fun K hK=> ?_);have bv:∀v∈J,v.oneCell'=true:=aN.out▸zbC (G k) y;have bQ:J.length=16:=aN.out▸rfl;obtain⟨bW,aU⟩:=zh2 bv bQ;clear hF hY bv bQ HX cw ci b9;go_wp2_with fail;refine mok hK ?_;have cr:d≠A:=by have:=(R.out d (.inr (.inr rfl))).2;omega
    have cC:l≠A:=by have:=(R.out l (.inr (.inl rfl))).2;omega
    have a9:KepX (fun k=>k=d) wL F:=(b7.trans (KepX.below aO)).rowB T (fun b e=>.inr (by have e:A=b:=zI e;rw[hZ];omega));have nS:Blk F l [.slice (some ⟨gC,0,none⟩) f c1,.slice (some ⟨d,0,none⟩) f U,.slice (some ⟨gX,0,none⟩) 16 c3,q] 26:=EL.kepX a9 (show¬_=d by omega);have cN:=nS.cell 1;simp only[zvH]at cN;have bb:=zC (zbY (X:=fun k=>k=A) (yM (B:=0) bo.out aO) (KepX.row T (fun b e=>.inl (zI e).symm)) (fun g e=>by have e:some d=some g:=e;cases e;exact cr));have bz:=zdL (o:=k*16) (k:=16) bb.out om;have bu:F.there d (k*16) J.toArray.size:=by rw[zfX,aU.out];exact bz
    have bL:=zC (show∀(j:Nat) (p:S14.P) (y':Lay),j<k+1→(S14.parts1 G N.parts (k+1))[j]? = some p→(H.set k y)[j]? = some y'→PRobX (fun k=>k<w.heap.size∨k=w.heap.size+1∨k=l∨k=d) p y' F from fun j p y' av s t=>by
     rw[S14.parts1]at s;rw[List.getElem?_set]at s t;have cL:(S14.parts1 G N.parts k).length=f:=by rw[S14.parts1_length,ax.out]
     by_cases hj:k=j
     ·subst hj;rw[zQ rfl,zQ om]at s t;cases s;cases t
      exact(br.kep (KepX.row T (fun b e=>.inl (.inr (.inr (.inr (.inr (zI e).symm))))))).change (fun b _ m=>by
       rcases m with h|h|h|h
       ·exact .inl h
       ·exact .inr (.inl h)
       ·exact .inr (.inr (.inl h))
       ·exact .inr (.inr (.inr (.inl h))))
     ·rw[zG hj]at s t;exact(bT.out j p y' om s t).kep ((KepX.below aO).rowB T (fun b e=>.inr (by have e:A=b:=zI e;omega))))
    clear bz T aO br bo bT ab k6 kQ;go_wp2_with (first
     | (refine ld50 (.tmp 11) ES ?_ (yG some aU.out.symm))
     | (refine wpList_store_mid by3 50 (.tmp 61) (.tmp 60) by3 d (k*16) J.toArray by3 by3 bu (info_P.trans (yG some (aU.out.symm.trans List.size_toArray.symm))) (all_oneCell_toArray bW.out) ?_))
    have a8:=zgT (o:=k*16) (vs:=J) bb.out (by rw[aU.out];omega);have a5:=yL d J (k*16) F;have hE:J.toArray.toList=J:=List.toList_toArray;rw[←aN.out,←zvA _ _ _ _ _ (by rw[a0,S14.parts1_length,ax.out]) (by rw[S14.parts1_length,ax.out];exact bX),aN.out]at a8;have b6:Hid ((F.setCells d (k*16) J).ownsRow D 50 16 (.slice (some ⟨d,0,none⟩) f U) f (PCs (S14.parts1 G N.parts (k+1)) (H.set k y))):=zC a8;have bZ:=a9.trans (KepX.row a5 (fun b e=>.inl (zI e).symm));have cv:=zC (show∀(j:Nat) (p:S14.P) (y':Lay),j<k+1→(S14.parts1 G N.parts (k+1))[j]? = some p→(H.set k y)[j]? = some y'→PRobX (fun k=>k<w.heap.size∨k=w.heap.size+1∨k=l∨k=d) p y' (F.setCells d (k*16) J)from fun j p y' av s t=>(bL.out j p y' av s t).kep (KepX.row a5 (fun b e=>.inl (.inr (.inr (.inr (zI e).symm))))));have cp:(H.set k y).length=f:=by rw[yH,a0]
    clear a8 a5 bb bL a9 bu cN nS ES;go_roundw
    case rel=>exact⟨k+1,H.set k y,by omega,by simp,cp,hE▸b6,hE▸bZ,hE▸cv⟩
    case measure=>simp[intOf];omega
   have aQ:Below r r r.drew:=(zJ _ _).drew;obtain⟨v0,cd⟩:=zvJ r.drew;rw[cd]at aQ⊢;refine zbV ?_ ?_
   ·skip
    have aY:Below v0 v0 (v0.alloc (.cells #[.slice none 0 0,.int .i64 0,.slice none 0 0,.int .i64 0,.int .i64 0,.int .i64 0,.slice none 0 0,.slice none 0 0,.int .i64 0,.int .i64 0,.int .i64 0,.int .i64 0,.slice none 0 0,.int .i64 0,.slice none 0 0,.slice none 0 0] 50)):=(zJ _ _).alloc (zF _) _;have ad:=zA aQ aY;refine mpV ((show Below r r (v0.alloc (.cells #[.slice none 0 0,.int .i64 0,.slice none 0 0,.int .i64 0,.int .i64 0,.int .i64 0,.slice none 0 0,.slice none 0 0,.int .i64 0,.int .i64 0,.int .i64 0,.int .i64 0,.slice none 0 0,.int .i64 0,.slice none 0 0,.slice none 0 0] 50))∧Cells (v0.alloc (.cells #[.slice none 0 0,.int .i64 0,.slice none 0 0,.int .i64 0,.int .i64 0,.int .i64 0,.slice none 0 0,.slice none 0 0,.int .i64 0,.int .i64 0,.int .i64 0,.int .i64 0,.slice none 0 0,.int .i64 0,.slice none 0 0,.slice none 0 0] 50)) [(⟨Q,0,none⟩,x.kind),(⟨Q,1,none⟩,x.bits),(⟨Q,2,none⟩,x.limit),(⟨Q,3,none⟩,x.rate),(⟨Q,4,none⟩,x.first),(⟨Q,5,none⟩,x.second),(⟨w,0,none⟩,.slice (some ⟨g,o,none⟩) f L.c1),(⟨w,1,none⟩,.slice L.a2 f L.c2),(⟨w,2,none⟩,.slice L.a3 16 L.c3),(⟨w,3,none⟩,q)]from⟨ad,Cells.step ad ab⟩)) ?_;have C:=Blk.new v0 [.slice none 0 0,.int .i64 0,.slice none 0 0,.int .i64 0,.int .i64 0,.int .i64 0,.slice none 0 0,.slice none 0 0,.int .i64 0,.int .i64 0,.int .i64 0,.int .i64 0,.slice none 0 0,.int .i64 0,.slice none 0 0,.slice none 0 0] 50;have ac:r.heap.size≤v0.heap.size:=aQ.size;obtain⟨A,ag⟩:=zvJ v0.heap.size;obtain⟨v1,bO⟩:=zvJ (v0.alloc (.cells #[.slice none 0 0,.int .i64 0,.slice none 0 0,.int .i64 0,.int .i64 0,.int .i64 0,.slice none 0 0,.slice none 0 0,.int .i64 0,.int .i64 0,.int .i64 0,.int .i64 0,.slice none 0 0,.int .i64 0,.slice none 0 0,.slice none 0 0] 50));have aS:A<v1.heap.size:=by rw[←bO,←ag];simp
    rw[bO]at ad aY C⊢;rw[ag]at C ac aY⊢;refine mpC ?_;refine mnb ad (HO.out x _) fun P ak S=> ?_;refine mpk S ab ?_;rw[bN];have C:=C.step ak;have aS:=zbA aS ak.size;repeat refine mpR ?_
    refine mpC ?_;refine(HX.out P S).mono ?_;rintro e v3 ⟨y,rfl,aG,ae⟩;have M:=zA S ae;have zW:r.heap.size≤P.heap.size:=S.size;refine mpk M ab ?_;have C:=C.step ae;repeat refine mpR ?_
    refine ps50 (.tmp 11) (.tmp 51) (yB (G k) y) C ?_;intro F ES T sS;refine⟨(fun m=>⟨m,Cells.step m ab⟩) (M.trans (yA T ac M.size)),?_⟩;simp only[zvF];refine zaT (a7 _ y _ A _ F (zC rfl) M (aG.toX (fun b _ m=> ?_)) ac ES T);have m:b<w.heap.size∨b=w.heap.size+1∨b=l∨b=d∨b=A:=m;rcases m with h|h|h|h|h
    ·have:=R.out (w.heap.size+1) (.inl rfl);omega
    ·have:=R.out b (.inl h);omega
    ·have:=R.out b (.inr (.inl h));omega
    ·have:=R.out b (.inr (.inr h));omega
    ·omega
   ·skip
    refine mpC ?_;refine mnb aQ (HO.out x _) fun v1 aY ad=> ?_;refine mpk ad ab ?_;rw[bN];repeat refine mpR ?_
    refine zbV ?_ ?_
    ·skip
     have ak:Below v1 v1 (v1.alloc (.cells #[.slice none 0 0,.int .i64 0,.slice none 0 0,.int .i64 0,.int .i64 0,.int .i64 0,.slice none 0 0,.slice none 0 0,.int .i64 0,.int .i64 0,.int .i64 0,.int .i64 0,.slice none 0 0,.int .i64 0,.slice none 0 0,.slice none 0 0] 50)):=(zJ _ _).alloc (zF _) _;have S:=zA ad ak;refine mpV ((show Below r r (v1.alloc (.cells #[.slice none 0 0,.int .i64 0,.slice none 0 0,.int .i64 0,.int .i64 0,.int .i64 0,.slice none 0 0,.slice none 0 0,.int .i64 0,.int .i64 0,.int .i64 0,.int .i64 0,.slice none 0 0,.int .i64 0,.slice none 0 0,.slice none 0 0] 50))∧Cells (v1.alloc (.cells #[.slice none 0 0,.int .i64 0,.slice none 0 0,.int .i64 0,.int .i64 0,.int .i64 0,.slice none 0 0,.slice none 0 0,.int .i64 0,.int .i64 0,.int .i64 0,.int .i64 0,.slice none 0 0,.int .i64 0,.slice none 0 0,.slice none 0 0] 50)) [(⟨Q,0,none⟩,x.kind),(⟨Q,1,none⟩,x.bits),(⟨Q,2,none⟩,x.limit),(⟨Q,3,none⟩,x.rate),(⟨Q,4,none⟩,x.first),(⟨Q,5,none⟩,x.second),(⟨w,0,none⟩,.slice (some ⟨g,o,none⟩) f L.c1),(⟨w,1,none⟩,.slice L.a2 f L.c2),(⟨w,2,none⟩,.slice L.a3 16 L.c3),(⟨w,3,none⟩,q)]from⟨S,Cells.step S ab⟩)) ?_;have C:=Blk.new v1 [.slice none 0 0,.int .i64 0,.slice none 0 0,.int .i64 0,.int .i64 0,.int .i64 0,.slice none 0 0,.slice none 0 0,.int .i64 0,.int .i64 0,.int .i64 0,.int .i64 0,.slice none 0 0,.int .i64 0,.slice none 0 0,.slice none 0 0] 50;have ac:r.heap.size≤v1.heap.size:=ad.size;obtain⟨A,ag⟩:=zvJ v1.heap.size;obtain⟨P,bn⟩:=zvJ (v1.alloc (.cells #[.slice none 0 0,.int .i64 0,.slice none 0 0,.int .i64 0,.int .i64 0,.int .i64 0,.slice none 0 0,.slice none 0 0,.int .i64 0,.int .i64 0,.int .i64 0,.int .i64 0,.slice none 0 0,.int .i64 0,.slice none 0 0,.slice none 0 0] 50));have aS:A<P.heap.size:=by rw[←bn,←ag];simp
     rw[bn]at S ak C⊢;rw[ag]at C ac ak⊢;refine mpC ?_;refine(HX.out P S).mono ?_;rintro e v3 ⟨y,rfl,aG,ae⟩;have M:=zA S ae;have zW:r.heap.size≤P.heap.size:=S.size;refine mpk M ab ?_;have C:=C.step ae;repeat refine mpR ?_
     refine ps50 (.tmp 11) (.tmp 51) (yB (G k) y) C ?_;intro F ES T sS;refine⟨(fun m=>⟨m,Cells.step m ab⟩) (M.trans (yA T ac M.size)),?_⟩;simp only[zvF];refine zaT (a7 _ y _ A _ F (zC rfl) M (aG.toX (fun b _ m=> ?_)) ac ES T);have m:b<w.heap.size∨b=w.heap.size+1∨b=l∨b=d∨b=A:=m;rcases m with h|h|h|h|h
     ·have:=R.out (w.heap.size+1) (.inl rfl);omega
     ·have:=R.out b (.inl h);omega
     ·have:=R.out b (.inr (.inl h));omega
     ·have:=R.out b (.inr (.inr h));omega
     ·omega
    ·skip
     refine mpC ?_;refine(HX.out v1 ad).mono ?_;rintro e P ⟨y,rfl,aG,ak⟩;have S:=zA ad ak;have zW:r.heap.size≤v1.heap.size:=ad.size;refine mpk S ab ?_;repeat refine mpR ?_
     have ae:Below P P (P.alloc (.cells #[.slice none 0 0,.int .i64 0,.slice none 0 0,.int .i64 0,.int .i64 0,.int .i64 0,.slice none 0 0,.slice none 0 0,.int .i64 0,.int .i64 0,.int .i64 0,.int .i64 0,.slice none 0 0,.int .i64 0,.slice none 0 0,.slice none 0 0] 50)):=(zJ _ _).alloc (zF _) _;have M:=zA S ae;refine mpV ((show Below r r (P.alloc (.cells #[.slice none 0 0,.int .i64 0,.slice none 0 0,.int .i64 0,.int .i64 0,.int .i64 0,.slice none 0 0,.slice none 0 0,.int .i64 0,.int .i64 0,.int .i64 0,.int .i64 0,.slice none 0 0,.int .i64 0,.slice none 0 0,.slice none 0 0] 50))∧Cells (P.alloc (.cells #[.slice none 0 0,.int .i64 0,.slice none 0 0,.int .i64 0,.int .i64 0,.int .i64 0,.slice none 0 0,.slice none 0 0,.int .i64 0,.int .i64 0,.int .i64 0,.int .i64 0,.slice none 0 0,.int .i64 0,.slice none 0 0,.slice none 0 0] 50)) [(⟨Q,0,none⟩,x.kind),(⟨Q,1,none⟩,x.bits),(⟨Q,2,none⟩,x.limit),(⟨Q,3,none⟩,x.rate),(⟨Q,4,none⟩,x.first),(⟨Q,5,none⟩,x.second),(⟨w,0,none⟩,.slice (some ⟨g,o,none⟩) f L.c1),(⟨w,1,none⟩,.slice L.a2 f L.c2),(⟨w,2,none⟩,.slice L.a3 16 L.c3),(⟨w,3,none⟩,q)]from⟨M,Cells.step M ab⟩)) ?_;have C:=Blk.new P [.slice none 0 0,.int .i64 0,.slice none 0 0,.int .i64 0,.int .i64 0,.int .i64 0,.slice none 0 0,.slice none 0 0,.int .i64 0,.int .i64 0,.int .i64 0,.int .i64 0,.slice none 0 0,.int .i64 0,.slice none 0 0,.slice none 0 0] 50;have ac:r.heap.size≤P.heap.size:=S.size;obtain⟨A,ag⟩:=zvJ P.heap.size;obtain⟨v3,bM⟩:=zvJ (P.alloc (.cells #[.slice none 0 0,.int .i64 0,.slice none 0 0,.int .i64 0,.int .i64 0,.int .i64 0,.slice none 0 0,.slice none 0 0,.int .i64 0,.int .i64 0,.int .i64 0,.int .i64 0,.slice none 0 0,.int .i64 0,.slice none 0 0,.slice none 0 0] 50));have aS:A<v3.heap.size:=by rw[←bM,←ag];simp
     rw[bM]at M ae C⊢;rw[ag]at C ac ae⊢;refine ps50 (.tmp 11) (.tmp 51) (yB (G k) y) C ?_;intro F ES T sS;refine⟨(fun m=>⟨m,Cells.step m ab⟩) (M.trans (yA T ac M.size)),?_⟩;simp only[zvF];refine zaT (a7 _ y _ A _ F (zC rfl) M ((aG.toX (fun b cq m=> ?_)).kep (KepX.below (ag.symm▸ae))) ac ES T);have m:b<w.heap.size∨b=w.heap.size+1∨b=l∨b=d∨b=A:=m;rcases m with h|h|h|h|h
     ·have:=R.out (w.heap.size+1) (.inl rfl);omega
     ·have:=R.out b (.inl h);omega
     ·have:=R.out b (.inr (.inl h));omega
     ·have:=R.out b (.inr (.inr h));omega
     ·omega
  ·obtain rfl:k=f:=by omega
   have nr:Blk wr l [.slice (some ⟨gC,0,none⟩) k c1,.slice (some ⟨d,0,none⟩) k U,.slice (some ⟨gX,0,none⟩) 16 c3,q] 26:=EL.kepX aa (show¬_=d by omega);have rr:=rL.kepX aa (show¬_=d by omega);have aK:(S14.parts1 G N.parts k).length=k:=by rw[S14.parts1_length,ax.out]
   have bl:∀b,(b=w.heap.size+1∨b=l)→b<wr.heap.size:=fun b m=>by
    have s:=R.out b (by rcases m with h|h;exact .inl h;exact .inr (.inl h));omega
   have bC:∀(V:Int) W2,KepX (fun b=>b<w.heap.size∨b=w.heap.size+1∨b=l) wr W2→NIs ⟨N.comps,S14.parts1 G N.parts k,N.ctxs,V⟩ ⟨some ⟨gC,0,none⟩,c1,some ⟨d,0,none⟩,U,some ⟨gX,0,none⟩,c3,H⟩ W2:=fun V W2 t=>
    {rc:=(bJ.out.kepX aa (fun g o e=>by cases e;exact be)).kepX t (fun g o e=>by cases e;show¬(_<_∨_=_∨_=_);omega)
     rp:=(Rd.of_owns aB.out).kepX t (fun g o e=>by cases e;show¬(_<_∨_=_∨_=_);omega)
     rx:=(bx.out.kepX aa (fun g o e=>by cases e;exact bh)).kepX t (fun g o e=>by cases e;show¬(_<_∨_=_∨_=_);omega)
     ly:=by rw[a0];exact aK.symm
     ps:=fun j p y s h3=>(((aE.out j p y (by have h4:j<H.length:=(List.getElem?_eq_some_iff.1 h3).1;omega) s h3).change (fun b _ m=>by
      rcases m with h|h|h
      ·exact .inl h
      ·exact .inr (.inl h)
      ·exact .inr (.inr (.inl h)))).kep t).is
     xs:=HN.out.xs
     l1:=⟨by show N.comps.length≤_;rw[af.out];exact cs,bY⟩
     l2:=⟨by show(S14.parts1 G N.parts k).length≤_;rw[aK];exact b5,ch⟩
     l3:=⟨by show N.ctxs.length≤_;rw[bf.out];exact aT,ck⟩}
   have bU:=zC bC
   have HT:=zC (show∀(V:Int) (wB:World),S14.next q bit=V→KepX (fun b=>b=w.heap.size+1∨b=l) wr wB→S14.opens V→
    Calls Tryz.prog 18 #[.agg #[.slice (some ⟨gC,0,none⟩) k c1,.slice (some ⟨d,0,none⟩) k U,.slice (some ⟨gX,0,none⟩) 16 c3,(V)]] wB fun e w'=>∃n,e = .returned (.agg #[.slice n.a1 z.comps.length n.c1,.slice n.a2 z.parts.length n.c2,.slice n.a3 z.ctxs.length n.c3,z.part])∧
     (∀W2,KepX (fun b=>b<w.heap.size∨b=w.heap.size+1∨b=l) w' W2→NIs z n W2)∧KepX (fun b=>(Value.slice (some ⟨d,0,none⟩) k U).ownBlock=some b) wB w' from fun V wB hV E ap=>by
    have s:=b8.out (by rw[aH.out,hV];exact ap) ⟨some ⟨gC,0,none⟩,c1,some ⟨d,0,none⟩,U,some ⟨gX,0,none⟩,c3,H⟩ wB (fun b=>b<w.heap.size∨b=w.heap.size+1∨b=l)
     (E.toBelow aq (fun b e=>by have e:b=w.heap.size+1∨b=l:=e;omega)) (fun b e=>zbA (e.elim (fun h=>by have h3:=bl (w.heap.size+1) (.inl rfl);omega) (bl b)) E.size)
     (by
       rw[af.out,aH.out,hV];exact fun W2 t=>bU.out V W2 ((E.mono (fun b _ h=>.inr h)).trans t))
     (by
       rw[af.out];show wB.ownsRow w.heap.size 50 16 (.slice (some ⟨d,0,none⟩) (S14.parts1 G N.parts k).length U) (S14.parts1 G N.parts k).length (PCs (S14.parts1 G N.parts k) H);rw[aK];exact zeS (zbY aB.out E (fun g e=>by have e:some d=some g:=e;cases e;show¬(_=_∨_=_);omega)) om)
     (by
       rw[af.out];intro j p y s h3;have av:j<k:=by have h4:j<H.length:=(List.getElem?_eq_some_iff.1 h3).1;omega
       refine((aE.out j p y av s h3).change (fun b _ m=> ?_)).kep (E.mono (fun b _ m=>.inl (.inr m)));rcases m with(h|h|h)|h
       ·exact .inl h
       ·exact .inr (.inl h)
       ·exact .inr (.inr (.inl h))
       ·have h:(Value.slice (some ⟨d,0,none⟩) (S14.parts1 G N.parts k).length U).ownBlock=some b:=h;exact .inr (.inr (.inr (zI h).symm)))
     (fun b m=>by
       have m:some d=some b:=m;have:=zI m;show¬(_<_∨_=_∨_=_);omega)
     (fun W2 t=>by
       have t:KepX (fun b=>(b<w.heap.size∨b=w.heap.size+1∨b=l)∨some d=some b) wB W2:=t
       refine⟨((bJ.out.kepX aa (fun g o e=>by cases e;exact be)).kepX E (fun g o e=>by cases e;show¬(_=_∨_=_);omega)).kepX t (fun g o e=>by cases e;exact fun h=>h.elim (fun h=>by omega) (fun h=>be (zI h).symm)),
        ((bx.out.kepX aa (fun g o e=>by cases e;exact bh)).kepX E (fun g o e=>by cases e;show¬(_=_∨_=_);omega)).kepX t (fun g o e=>by cases e;exact fun h=>h.elim (fun h=>by omega) (fun h=>bh (zI h).symm))⟩)
    unfold NV zaN at s;rw[af.out,aH.out,hV]at s;simp only[aK,af.out,bf.out]at s;exact s)
   clear bC aB aE aa;have hp:=bm.out;have b0:0≤bit∧bit≤1:=by rcases ct.out with h|h<;>omega
   obtain⟨bc,a6⟩:=hp;obtain⟨cq,cA⟩:=b0;have cj:=kr.cell 3;have f3:=nr.cell 3;have cJ:=nr.free 3;have nA:=nr.set 3 (.int .i64 (2*q+bit));have rA:=rr.other l 3 (.int .i64 (2*q+bit)) om;have aX:KepX (fun b=>b=w.heap.size+1∨b=l) wr (wr.setCell ⟨l,3,none⟩ (.int .i64 (2*q+bit))):=KepX.row (zbS wr l 3 (.int .i64 (2*q+bit))) (fun b e=>.inl (.inr (zI e).symm));have a3:=nA.cell 3;have cK:=nA.free 3;simp only[sC0,sCs,lgz,lgs]at cj f3 nA a3;by_cases cG:255<2*q+bit
   ·have aj:S14.next q bit=1:=by unfold S14.next;rw[zQ om]
    have ap:S14.opens 1:=.inl rfl;have nB:=nA.set 3 (.int .i64 1);have rB:=rA.other l 3 (.int .i64 1) om;have E:=aX.trans (KepX.row (X:=fun b=>b=w.heap.size+1∨b=l) (zbS (wr.setCell ⟨l,3,none⟩ (.int .i64 (2*q+bit))) l 3 (.int .i64 1)) (fun b e=>.inl (.inr (zI e).symm)));have b3:=nB.cell 3;simp only[sC0,sCs,lgz,lgs]at nB b3;clear nr rr kr nA rA aX;have aL:=HT.out (1) _ aj E ap;go_wp2_with (first
     | (refine ld26 (.tmp 8) nB ?_))
    refine aL.mono ?_;rintro e w8 ⟨n,rfl,aD,ai⟩;have n8:=nB.kepX ai (fun e=>by have e:some d=some l:=e;have:=zI e;omega);have r8:=rB.kepX ai (fun e=>by have e:some d=some (w.heap.size+1):=e;have:=zI e;omega);have B8:=ai.toBelow (E.toBelow aq (fun b e=>by have e:b=w.heap.size+1∨b=l:=e;omega)) (fun b e=>by have e:some d=some b:=e;have:=zI e;omega);have bg:=zC aD;clear aD ai nB rB E aL;go_wp2_with (first
     | (refine st26 (.tmp 8) (.tmp 83) [.slice n.a1 z.comps.length n.c1,.slice n.a2 z.parts.length n.c2,.slice n.a3 z.ctxs.length n.c3,z.part] n8 ?_;intro wM EM gM sM;have rM:=r8.keptRow gM by7)
     | (refine ld26 (.tmp 8) EM ?_)
     | (refine st26 (.tmp 4) (.tmp 84) [.slice n.a1 z.comps.length n.c1,.slice n.a2 z.parts.length n.c2,.slice n.a3 z.ctxs.length n.c3,z.part] rM ?_;intro wR ER gR sR))
    have hL:=lv26 ER;refine rL2 hL ?_;exact⟨n,rfl,fun W u=>bg.out W (((KepX.row gM (fun b e=>.inl (.inr (.inr (zI e).symm)))).trans (KepX.row gR (fun b e=>.inl (.inr (.inl (zI e).symm))))).trans (u.mono (fun b _ h=>.inl h))),(B8.trans (yA gM om B8.size)).trans (yA gR om (by have:=B8.size;omega))⟩
   ·have bj:S14.next q bit=2*q+bit:=by unfold S14.next;rw[zG om]
    have ca:2*q+bit≠1:=by omega
    have cD:(2*q+bit==1)=false:=by simpa using ca
    have nB:=nA;have rB:=rA;have E:=aX;have aj:=bj;clear nr rr kr nA rA aX;by_cases bH:(2*q+bit)/16=1
    ·have ap:S14.opens (2*q+bit):=.inr om;have ce:((2*q+bit)/16==1)=true:=by simpa using bH
     have aL:=HT.out (2*q+bit) _ aj E ap;go_wp2_with (first
      | (refine ld26 (.tmp 8) nB ?_))
     refine aL.mono ?_;rintro e w8 ⟨n,rfl,aD,ai⟩;have n8:=nB.kepX ai (fun e=>by have e:some d=some l:=e;have:=zI e;omega);have r8:=rB.kepX ai (fun e=>by have e:some d=some (w.heap.size+1):=e;have:=zI e;omega);have B8:=ai.toBelow (E.toBelow aq (fun b e=>by have e:b=w.heap.size+1∨b=l:=e;omega)) (fun b e=>by have e:some d=some b:=e;have:=zI e;omega);have bg:=zC aD;clear aD ai nB rB E aL;go_wp2_with (first
      | (refine st26 (.tmp 8) (.tmp 83) [.slice n.a1 z.comps.length n.c1,.slice n.a2 z.parts.length n.c2,.slice n.a3 z.ctxs.length n.c3,z.part] n8 ?_;intro wM EM gM sM;have rM:=r8.keptRow gM by7)
      | (refine ld26 (.tmp 8) EM ?_)
      | (refine st26 (.tmp 4) (.tmp 84) [.slice n.a1 z.comps.length n.c1,.slice n.a2 z.parts.length n.c2,.slice n.a3 z.ctxs.length n.c3,z.part] rM ?_;intro wR ER gR sR))
     have hL:=lv26 ER;refine rL2 hL ?_;exact⟨n,rfl,fun W u=>bg.out W (((KepX.row gM (fun b e=>.inl (.inr (.inr (zI e).symm)))).trans (KepX.row gR (fun b e=>.inl (.inr (.inl (zI e).symm))))).trans (u.mono (fun b _ h=>.inl h))),(B8.trans (yA gM om B8.size)).trans (yA gR om (by have:=B8.size;omega))⟩
    ·have ap:¬S14.opens (2*q+bit):=fun h=>by
      rcases h with h|h
      ·omega
      ·omega
     have ce:((2*q+bit)/16==1)=false:=by simpa using bH
     have e2:=b4.out (by rw[aH.out,bj];exact ap);have bq:=bU.out (2*q+bit);rw[af.out,aH.out,bj]at e2;have bG:=zC e2;clear e2;have b1:=zC bq;clear bq;go_wp2_with (first
      | (refine ld26 (.tmp 8) nB ?_)
      | (refine st26 (.tmp 4) (.tmp 84) [.slice (some ⟨gC,0,none⟩) k c1,.slice (some ⟨d,0,none⟩) k U,.slice (some ⟨gX,0,none⟩) 16 c3,.int .i64 (2*q+bit)] rB ?_;intro wR ER gR sR))
     have hL:=lv26 ER;have Bf:=E.toBelow aq (fun b e=>by have e:b=w.heap.size+1∨b=l:=e;omega);refine rL2 hL ?_;refine⟨⟨some ⟨gC,0,none⟩,c1,some ⟨d,0,none⟩,U,some ⟨gX,0,none⟩,c3,H⟩,?_,?_,Bf.trans (yA gR om Bf.size)⟩
     ·rw[bG.out];simp only[aK,af.out,bf.out]
     ·rw[bG.out];exact fun W u=>b1.out W (((E.mono (fun b _ h=>.inr h)).trans (KepX.row gR (fun b e=>.inl (.inr (.inl (zI e).symm))))).trans (u.mono (fun b _ h=>.inl h)))
